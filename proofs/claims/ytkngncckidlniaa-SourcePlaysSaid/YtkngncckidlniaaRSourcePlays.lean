-- Lines by a program of this session, for this claim.
import Derived.Test.YtkngncckidlniaaRows
import Derived.Test.YtkngncckidlniaaQSourcePlaysx8
import Derived.Test.YtkngncckidlniaaUSourcePlays
import Derived.WalkKit
import Derived.ProofKit
import Derived.OpenShut
import Derived.ShutString
import Derived.ChangeOld
import Derived.Below
import Derived.SizedLaws
import Derived.Test.YtkngncckidlniaaVSourcePlaysSized
import Derived.Test.YtkngncckidlniaaVSourcePlaysOpn
namespace Go.Proofs.Ytkngncckidlniaa.sourcePlays
open Go.Proofs.Ytkngncckidlniaa.QSourcePlays Go.Proofs.YtkngncckidlniaaW.PrintWords Go.Proofs.YtkngncckidlniaaW.PrintMore Go.Proofs.YtkngncckidlniaaW.Opn
open Go.ChangeShapes Go.WideShapes Go.ChangeAt Go.RowKit
open Go.ChangeMaps (open_string shut_string)
set_option linter.unusedVariables false
theorem own : ownKnob Try.prog.godebug = none := by kernel_rfl
theorem laidOut : laidOutB Try.prog = true := by kernel_rfl
def IsRow (k : IntKind) (w : World) (a : Option Addr) (len cap : Nat) (zs : List Int) : Prop :=
  (a = none ∧ len = 0 ∧ cap = 0 ∧ zs = []) ∨
  ∃ x, a = some x ∧ len ≤ cap ∧ cap ≤ maxLen ∧ zs.length = cap ∧ (∀ i, i < zs.length → w.cell? (x.add i) = some (.int k (zs.getD i 0))) ∧ ∀ n ∈ zs, (Lit.int k n).wf = true
set_option maxRecDepth 100000 in
theorem lifted (os : Os) (started : os.Started) (H : Type) (enc : TypeId × Value → H) :
    ReturnsInHanded {} Try.checked os 5 .any (Rows.sourcePlaysSpec.pre6 enc Try.prog Try.f5 Rows.sourcePlaysRow.domain false) (Rows.sourcePlaysSpec.post enc Try.prog Try.f5 false true false false) := by
  refine returnsInHanded_of_change_sized (C := Try.checked) own started (by kernel_rfl) Try.func5
    (ChangeSpec.witness6 (enc := enc) (C := Try.checked) false ⟨#[], #[.slice none 0 0, .slice none 0 0], []⟩ 8 (by kernel_rfl) (by kernel_rfl) (by kernel_rfl) (by kernel_rfl)) ?_
  intro W base args ds gs before hval0 hW hcnd hsz0 _
  have hsz : (DataW.weightsEach Try.prog (Try.f5.params.toList ++ Rows.sourcePlaysSpec.plain.varTypes Try.prog) (ds ++ gs)).all (· ≤ reachBytes) = true := hsz0
  have hval : ∀ (j : Nat) t v, Try.f5.params[j]? = some t → args[j]? = some v → Value.okWide Try.prog W .any base t v := hval0
  have hW' := hW
  obtain ⟨p, q, hA0, hV, rfl, hfz, hnd⟩ := hW
  have hA : DataW.TrodAll enc Try.prog W 0 (fun _ => true) true Try.f5.params.toList args.toList ds p := hA0
  rw [Try.params5] at hA hval hsz
  obtain ⟨v0, vs0, d0, ds0, p0, q0, hargs, rfl, rfl, h0, r0⟩ := trodAll_cons hA
  obtain ⟨v1, vs1, d1, ds1, p1, q1, rfl, rfl, rfl, h1, r1⟩ := trodAll_cons r0
  obtain ⟨rfl, rfl, rfl⟩ := trodAll_nil r1
  obtain rfl : args = #[v0, v1] := by cases args; simp_all
  obtain ⟨rfl, rfl⟩ := trodVars_none hV
  obtain ⟨a0, len0, cap0, rfl⟩ := okWide_slice Try.underlying22 (hval 0 22 v0 rfl rfl)
  have k0 := h0
  have lt0 : ∀ x ∈ p0, x.block < W.heap.size := by obtain ⟨m, hm⟩ := k0; exact DataW.trod_lt m _ _ _ hm
  obtain ⟨fu0, hf0⟩ := h0
  obtain ⟨l0, ⟨A0, c0, hcs0, hc0, hr0⟩, hm0, hw0⟩ := (show Opn enc Try.prog W 0 (fun _ => true) true 22 (Kd.slice 25 k25) (fun l => l.length ≤ maxLen ∧ ∀ x ∈ l, ((Lit.int .u8 x.f0).wf = true ∧ ((Lit.int .u8 x.f1).wf = true ∧ (Lit.int .u16 x.f2).wf = true))) from (opn_slice Try.underlying22 (by kernel_rfl) (opn_struct (fun x : S25 => (x.f0, x.f1, x.f2)) (fun y => by first | exact ⟨⟨y⟩, rfl⟩ | (obtain ⟨y0, y1, y2⟩ := y; exact ⟨⟨y0, y1, y2⟩, rfl⟩)) Try.underlying25 (by kernel_rfl) (opnl_cons (by rfl) (by kernel_rfl) (opn_int Try.underlying5) (opnl_cons (by rfl) (by kernel_rfl) (opn_int Try.underlying5) (opnl_one (by rfl) (by kernel_rfl) (opn_int Try.underlying23))))))) _ _ _ hf0
  simp [Value.cells] at hcs0
  obtain ⟨rfl, rfl, rfl⟩ := hcs0
  obtain ⟨a1, len1, cap1, rfl⟩ := okWide_slice Try.underlying22 (hval 1 22 v1 rfl rfl)
  have k1 := h1
  have lt1 : ∀ x ∈ p1, x.block < W.heap.size := by obtain ⟨m, hm⟩ := k1; exact DataW.trod_lt m _ _ _ hm
  obtain ⟨fu1, hf1⟩ := h1
  obtain ⟨l1, ⟨A1, c1, hcs1, hc1, hr1⟩, hm1, hw1⟩ := (show Opn enc Try.prog W 0 (fun _ => true) true 22 (Kd.slice 25 k25) (fun l => l.length ≤ maxLen ∧ ∀ x ∈ l, ((Lit.int .u8 x.f0).wf = true ∧ ((Lit.int .u8 x.f1).wf = true ∧ (Lit.int .u16 x.f2).wf = true))) from (opn_slice Try.underlying22 (by kernel_rfl) (opn_struct (fun x : S25 => (x.f0, x.f1, x.f2)) (fun y => by first | exact ⟨⟨y⟩, rfl⟩ | (obtain ⟨y0, y1, y2⟩ := y; exact ⟨⟨y0, y1, y2⟩, rfl⟩)) Try.underlying25 (by kernel_rfl) (opnl_cons (by rfl) (by kernel_rfl) (opn_int Try.underlying5) (opnl_cons (by rfl) (by kernel_rfl) (opn_int Try.underlying5) (opnl_one (by rfl) (by kernel_rfl) (opn_int Try.underlying23))))))) _ _ _ hf1
  simp [Value.cells] at hcs1
  obtain ⟨rfl, rfl, rfl⟩ := hcs1
  clear hA0 hval0 hsz0 hsz
  refine (QSourcePlays.milestonelaw15_SourcePlays.walk Pure.SourcePlays a0 cap0 l0 a1 cap1 l1 W hr0 hc0 hm0 hw0 hr1 hc1 hm1 hw1).mono fun e W' ⟨he, bel⟩ => ?_
  subst he
  exact ⟨_, rfl, _, _, _, [], _, [], hW', trodAll_mk1 (shut_bool Try.underlying4 _), (trodAll_cons_mk (Below.trod laidOut (by kernel_rfl) (of_decide_eq_true (by kernel_rfl)) k0 bel lt0) (trodAll_cons_mk (Below.trod laidOut (by kernel_rfl) (of_decide_eq_true (by kernel_rfl)) k1 bel lt1) trodAll_mk0)), rfl, bel.frame _, fun h => by cases h⟩
theorem over : Rows.sourcePlaysRow.holds Try.pinned (OpenSpec.ofChange Rows.sourcePlaysSpec) :=
  OpenClaim.holds_of_wide 5 Try.f5 rfl rfl rfl rfl rfl rfl rfl ⟨rfl, rfl, rfl, rfl, rfl⟩ rfl rfl rfl rfl rfl (by kernel_rfl) Try.func5 (by kernel_rfl)
    (of_decide_eq_true (by kernel_rfl)) (by unfold Func.isWrapper; first | (rw [if_pos (by decide +kernel)]; kernel_rfl) | (rw [if_neg (by decide +kernel)]; exact ⟨rfl, rfl⟩))
    (fun os started H enc _ => lifted os started H enc)
theorem proved : Rows.SourcePlaysSaid := over
#print axioms proved
end Go.Proofs.Ytkngncckidlniaa.sourcePlays
namespace Go.Proofs.Ytkngncckidlniaa
/-- The row, under a short name, for the claim. -/
theorem sourcePlays_holds : Rows.SourcePlaysSaid := sourcePlays.proved
end Go.Proofs.Ytkngncckidlniaa
