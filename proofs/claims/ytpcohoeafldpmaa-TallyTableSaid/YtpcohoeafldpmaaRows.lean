/-
  No cell of these rows narrows 'for every input' (looked for: loops, veiled, ifaces, maps, wideKeys, modest, calm, conditions, laid).
  DERIVED. THE GIVEN ROWS OF THIS SEAT. 9 by the template 'for every input the law returns true; each argument reads behind the call as it read before'; 0 by the template 'total and deterministic' (their statements: YtpcohoeafldpmaaTotals.lean).
  GIVEN WITH THE SEED: the statements are not yours to turn. If you find one false, say at which input.
  Laid BY PROGRAM, IN A SANDBOX (cutbox-rows.mjs): the forced cells as the released guide's own fill.sh prints them over the translation 6ebab5add1136a48… (all of the seat's roots in one cut). By AI agents, Wed Nov 11 2026. No macro, syntax, notation, axiom, sorry.
-/
import Derived.Test.YtpcohoeafldpmaaChecked
import GoSem.Claim
import GoSem.ClaimJoined
import GoSem.ClaimMapViews
import Derived.JoinedTies
import Derived.KernelRfl
namespace Go.Proofs.Ytpcohoeafldpmaa
/- THE CELL 'sum', in the pinned program and in every row, IS THE sha256 OF THE DUMP (.gsa) THAT YtpcohoeafldpmaaProg.lean LOADS. Nothing in Lean hashes anything: it is a label: what it is worth is what the hold of that sum in a sandbox is worth. -/
noncomputable def Try.pinned : Pinned := { name := "ytpcohoeafldpmaa", sum := "6ebab5add1136a48d34617cf32e4b7e23e13ef2b2823a5da084854d8363353b7", checked := Try.checked }
namespace Rows
def none {H : Type} : Left H := { results := [], args := [] }

/-- 'milestonelaw02.SerialNewer': WHATEVER THE INPUT: true; the input reads as it did. -/
def serialNewerSpec : ChangeSpec := { name := "serialNewer", fn := fun _ => fun
  | [d1, d2, d3] => { results := [.lit (.bool true)], args := [d1, d2, d3] }
  | _ => none }
def serialNewerRow : OpenClaim := { program := "ytpcohoeafldpmaa", sum := "6ebab5add1136a48d34617cf32e4b7e23e13ef2b2823a5da084854d8363353b7", func := "milestone/milestonelaw02.SerialNewer", spec := "serialNewer", apart := false }
def SerialNewerSaid : Prop := serialNewerRow.holds Try.pinned (OpenSpec.ofChange serialNewerSpec)

/-- ITS FALSE NEIGHBOUR: 'it returns false'. Refute it at one input. -/
def serialNewerWrong : ChangeSpec := { name := "serialNewer", fn := fun _ => fun
  | [d1, d2, d3] => { results := [.lit (.bool false)], args := [d1, d2, d3] }
  | _ => none }
def SerialNewerWrongFalsely : Prop := serialNewerRow.holds Try.pinned (OpenSpec.ofChange serialNewerWrong)

/-- 'milestonelaw02.SerialSums': WHATEVER THE INPUT: true; the input reads as it did. -/
def serialSumsSpec : ChangeSpec := { name := "serialSums", fn := fun _ => fun
  | [d1, d2, d3] => { results := [.lit (.bool true)], args := [d1, d2, d3] }
  | _ => none }
def serialSumsRow : OpenClaim := { program := "ytpcohoeafldpmaa", sum := "6ebab5add1136a48d34617cf32e4b7e23e13ef2b2823a5da084854d8363353b7", func := "milestone/milestonelaw02.SerialSums", spec := "serialSums", apart := false }
def SerialSumsSaid : Prop := serialSumsRow.holds Try.pinned (OpenSpec.ofChange serialSumsSpec)

/-- ITS FALSE NEIGHBOUR: 'it returns false'. Refute it at one input. -/
def serialSumsWrong : ChangeSpec := { name := "serialSums", fn := fun _ => fun
  | [d1, d2, d3] => { results := [.lit (.bool false)], args := [d1, d2, d3] }
  | _ => none }
def SerialSumsWrongFalsely : Prop := serialSumsRow.holds Try.pinned (OpenSpec.ofChange serialSumsWrong)

/-- 'milestonelaw02.SerialRounds': WHATEVER THE INPUT: true; the input reads as it did. -/
def serialRoundsSpec : ChangeSpec := { name := "serialRounds", fn := fun _ => fun
  | [d1, d2] => { results := [.lit (.bool true)], args := [d1, d2] }
  | _ => none }
def serialRoundsRow : OpenClaim := { program := "ytpcohoeafldpmaa", sum := "6ebab5add1136a48d34617cf32e4b7e23e13ef2b2823a5da084854d8363353b7", func := "milestone/milestonelaw02.SerialRounds", spec := "serialRounds", apart := false }
def SerialRoundsSaid : Prop := serialRoundsRow.holds Try.pinned (OpenSpec.ofChange serialRoundsSpec)

/-- ITS FALSE NEIGHBOUR: 'it returns false'. Refute it at one input. -/
def serialRoundsWrong : ChangeSpec := { name := "serialRounds", fn := fun _ => fun
  | [d1, d2] => { results := [.lit (.bool false)], args := [d1, d2] }
  | _ => none }
def SerialRoundsWrongFalsely : Prop := serialRoundsRow.holds Try.pinned (OpenSpec.ofChange serialRoundsWrong)

/-- 'milestonelaw02.SerialOrders': WHATEVER THE INPUT: true; the input reads as it did. -/
def serialOrdersSpec : ChangeSpec := { name := "serialOrders", fn := fun _ => fun
  | [d1, d2, d3, d4, d5, d6, d7] => { results := [.lit (.bool true)], args := [d1, d2, d3, d4, d5, d6, d7] }
  | _ => none }
def serialOrdersRow : OpenClaim := { program := "ytpcohoeafldpmaa", sum := "6ebab5add1136a48d34617cf32e4b7e23e13ef2b2823a5da084854d8363353b7", func := "milestone/milestonelaw02.SerialOrders", spec := "serialOrders", apart := false }
def SerialOrdersSaid : Prop := serialOrdersRow.holds Try.pinned (OpenSpec.ofChange serialOrdersSpec)

/-- ITS FALSE NEIGHBOUR: 'it returns false'. Refute it at one input. -/
def serialOrdersWrong : ChangeSpec := { name := "serialOrders", fn := fun _ => fun
  | [d1, d2, d3, d4, d5, d6, d7] => { results := [.lit (.bool false)], args := [d1, d2, d3, d4, d5, d6, d7] }
  | _ => none }
def SerialOrdersWrongFalsely : Prop := serialOrdersRow.holds Try.pinned (OpenSpec.ofChange serialOrdersWrong)

/-- 'milestonelaw02.SerialLatest': WHATEVER THE INPUT: true; the input reads as it did. -/
def serialLatestSpec : ChangeSpec := { name := "serialLatest", fn := fun _ => fun
  | [d1, d2] => { results := [.lit (.bool true)], args := [d1, d2] }
  | _ => none }
def serialLatestRow : OpenClaim := { program := "ytpcohoeafldpmaa", sum := "6ebab5add1136a48d34617cf32e4b7e23e13ef2b2823a5da084854d8363353b7", func := "milestone/milestonelaw02.SerialLatest", spec := "serialLatest", apart := false }
def SerialLatestSaid : Prop := serialLatestRow.holds Try.pinned (OpenSpec.ofChange serialLatestSpec)

/-- ITS FALSE NEIGHBOUR: 'it returns false'. Refute it at one input. -/
def serialLatestWrong : ChangeSpec := { name := "serialLatest", fn := fun _ => fun
  | [d1, d2] => { results := [.lit (.bool false)], args := [d1, d2] }
  | _ => none }
def SerialLatestWrongFalsely : Prop := serialLatestRow.holds Try.pinned (OpenSpec.ofChange serialLatestWrong)

/-- 'milestonelaw02.SerialMarks': WHATEVER THE INPUT: true; the input reads as it did. -/
def serialMarksSpec : ChangeSpec := { name := "serialMarks", fn := fun _ => fun
  | [d1, d2, d3] => { results := [.lit (.bool true)], args := [d1, d2, d3] }
  | _ => none }
def serialMarksRow : OpenClaim := { program := "ytpcohoeafldpmaa", sum := "6ebab5add1136a48d34617cf32e4b7e23e13ef2b2823a5da084854d8363353b7", func := "milestone/milestonelaw02.SerialMarks", spec := "serialMarks", apart := false }
def SerialMarksSaid : Prop := serialMarksRow.holds Try.pinned (OpenSpec.ofChange serialMarksSpec)

/-- ITS FALSE NEIGHBOUR: 'it returns false'. Refute it at one input. -/
def serialMarksWrong : ChangeSpec := { name := "serialMarks", fn := fun _ => fun
  | [d1, d2, d3] => { results := [.lit (.bool false)], args := [d1, d2, d3] }
  | _ => none }
def SerialMarksWrongFalsely : Prop := serialMarksRow.holds Try.pinned (OpenSpec.ofChange serialMarksWrong)

/-- 'milestonelaw04.TallySums': WHATEVER THE INPUT: true; the input reads as it did. -/
def tallySumsSpec : ChangeSpec := { name := "tallySums", fn := fun _ => fun
  | [d1, d2] => { results := [.lit (.bool true)], args := [d1, d2] }
  | _ => none }
def tallySumsRow : OpenClaim := { program := "ytpcohoeafldpmaa", sum := "6ebab5add1136a48d34617cf32e4b7e23e13ef2b2823a5da084854d8363353b7", func := "milestone/milestonelaw04.TallySums", spec := "tallySums", apart := false }
def TallySumsSaid : Prop := tallySumsRow.holds Try.pinned (OpenSpec.ofChange tallySumsSpec)

/-- ITS FALSE NEIGHBOUR: 'it returns false'. Refute it at one input. -/
def tallySumsWrong : ChangeSpec := { name := "tallySums", fn := fun _ => fun
  | [d1, d2] => { results := [.lit (.bool false)], args := [d1, d2] }
  | _ => none }
def TallySumsWrongFalsely : Prop := tallySumsRow.holds Try.pinned (OpenSpec.ofChange tallySumsWrong)

/-- 'milestonelaw04.TallyTurns': WHATEVER THE INPUT: true; the input reads as it did. -/
def tallyTurnsSpec : ChangeSpec := { name := "tallyTurns", fn := fun _ => fun
  | [d1, d2, d3] => { results := [.lit (.bool true)], args := [d1, d2, d3] }
  | _ => none }
def tallyTurnsRow : OpenClaim := { program := "ytpcohoeafldpmaa", sum := "6ebab5add1136a48d34617cf32e4b7e23e13ef2b2823a5da084854d8363353b7", func := "milestone/milestonelaw04.TallyTurns", spec := "tallyTurns", apart := false }
def TallyTurnsSaid : Prop := tallyTurnsRow.holds Try.pinned (OpenSpec.ofChange tallyTurnsSpec)

/-- ITS FALSE NEIGHBOUR: 'it returns false'. Refute it at one input. -/
def tallyTurnsWrong : ChangeSpec := { name := "tallyTurns", fn := fun _ => fun
  | [d1, d2, d3] => { results := [.lit (.bool false)], args := [d1, d2, d3] }
  | _ => none }
def TallyTurnsWrongFalsely : Prop := tallyTurnsRow.holds Try.pinned (OpenSpec.ofChange tallyTurnsWrong)

/-- 'milestonelaw04.TallyTable': WHATEVER THE INPUT: true; the input reads as it did. -/
def tallyTableSpec : ChangeSpec := { name := "tallyTable", fn := fun _ => fun
  | [d1, d2] => { results := [.lit (.bool true)], args := [d1, d2] }
  | _ => none }
def tallyTableRow : OpenClaim := { program := "ytpcohoeafldpmaa", sum := "6ebab5add1136a48d34617cf32e4b7e23e13ef2b2823a5da084854d8363353b7", func := "milestone/milestonelaw04.TallyTable", spec := "tallyTable", apart := false }
def TallyTableSaid : Prop := tallyTableRow.holds Try.pinned (OpenSpec.ofChange tallyTableSpec)

/-- ITS FALSE NEIGHBOUR: 'it returns false'. Refute it at one input. -/
def tallyTableWrong : ChangeSpec := { name := "tallyTable", fn := fun _ => fun
  | [d1, d2] => { results := [.lit (.bool false)], args := [d1, d2] }
  | _ => none }
def TallyTableWrongFalsely : Prop := tallyTableRow.holds Try.pinned (OpenSpec.ofChange tallyTableWrong)

/- THE SECOND FORM. 'bulk': how many values and letters a reading holds, each counted each time it is reached (what is shared counts as often as it is met; a slice's spare places count too). A statement '..UptoSaid' is the law's where the arguments, and the package variables that the reading takes, are together of bulk at most 1048576: NARROWER than '..Said'. Prove '..Said' where nothing that the law and all that it calls make is longer than what came in: it says more and counts as full. Else prove '..UptoSaid'. A law counts once. -/
mutual
def uptoBulk {H : Type} : DataW H → Nat
  | .lit (.string bytes) => bytes.length + 1
  | .lit _ => 1
  | .nil => 1
  | .ptr d => uptoBulk d + 1
  | .slice elems spare => uptoBulkAll elems + uptoBulkAll spare + 1
  | .agg parts => uptoBulkAll parts + 1
  | .iface _ d => uptoBulk d + 1
  | .map entries => uptoBulkEntries entries + 1
  | .held _ => 1
def uptoBulkAll {H : Type} : List (DataW H) → Nat
  | [] => 0
  | d :: r => uptoBulk d + uptoBulkAll r
def uptoBulkEntries {H : Type} : List (Lit × DataW H) → Nat
  | [] => 0
  | x :: r => uptoBulkEntry x + uptoBulkEntries r
def uptoBulkEntry {H : Type} : Lit × DataW H → Nat
  | (.string bytes, d) => bytes.length + uptoBulk d + 1
  | (_, d) => uptoBulk d + 1
 end
def uptoSmall : (H : Type) → List (DataW H) → Bool := fun _ ds => decide (uptoBulkAll ds ≤ 1048576)
def OpenSpec.upto (s : _root_.Go.ChangeSpec) : _root_.Go.OpenSpec := { _root_.Go.OpenSpec.ofChange s with cond := some uptoSmall }

/-- 'milestonelaw02.SerialNewer', WHERE WHAT IT READS IS OF BULK AT MOST 1048576: true; the input reads as it did. -/
def serialNewerUptoRow : OpenClaim := { program := "ytpcohoeafldpmaa", sum := "6ebab5add1136a48d34617cf32e4b7e23e13ef2b2823a5da084854d8363353b7", func := "milestone/milestonelaw02.SerialNewer", spec := "serialNewer", apart := false, narrowed := true }
def SerialNewerUptoSaid : Prop := serialNewerUptoRow.holds Try.pinned (OpenSpec.upto serialNewerSpec)

/-- 'milestonelaw02.SerialSums', WHERE WHAT IT READS IS OF BULK AT MOST 1048576: true; the input reads as it did. -/
def serialSumsUptoRow : OpenClaim := { program := "ytpcohoeafldpmaa", sum := "6ebab5add1136a48d34617cf32e4b7e23e13ef2b2823a5da084854d8363353b7", func := "milestone/milestonelaw02.SerialSums", spec := "serialSums", apart := false, narrowed := true }
def SerialSumsUptoSaid : Prop := serialSumsUptoRow.holds Try.pinned (OpenSpec.upto serialSumsSpec)

/-- 'milestonelaw02.SerialRounds', WHERE WHAT IT READS IS OF BULK AT MOST 1048576: true; the input reads as it did. -/
def serialRoundsUptoRow : OpenClaim := { program := "ytpcohoeafldpmaa", sum := "6ebab5add1136a48d34617cf32e4b7e23e13ef2b2823a5da084854d8363353b7", func := "milestone/milestonelaw02.SerialRounds", spec := "serialRounds", apart := false, narrowed := true }
def SerialRoundsUptoSaid : Prop := serialRoundsUptoRow.holds Try.pinned (OpenSpec.upto serialRoundsSpec)

/-- 'milestonelaw02.SerialOrders', WHERE WHAT IT READS IS OF BULK AT MOST 1048576: true; the input reads as it did. -/
def serialOrdersUptoRow : OpenClaim := { program := "ytpcohoeafldpmaa", sum := "6ebab5add1136a48d34617cf32e4b7e23e13ef2b2823a5da084854d8363353b7", func := "milestone/milestonelaw02.SerialOrders", spec := "serialOrders", apart := false, narrowed := true }
def SerialOrdersUptoSaid : Prop := serialOrdersUptoRow.holds Try.pinned (OpenSpec.upto serialOrdersSpec)

/-- 'milestonelaw02.SerialLatest', WHERE WHAT IT READS IS OF BULK AT MOST 1048576: true; the input reads as it did. -/
def serialLatestUptoRow : OpenClaim := { program := "ytpcohoeafldpmaa", sum := "6ebab5add1136a48d34617cf32e4b7e23e13ef2b2823a5da084854d8363353b7", func := "milestone/milestonelaw02.SerialLatest", spec := "serialLatest", apart := false, narrowed := true }
def SerialLatestUptoSaid : Prop := serialLatestUptoRow.holds Try.pinned (OpenSpec.upto serialLatestSpec)

/-- 'milestonelaw02.SerialMarks', WHERE WHAT IT READS IS OF BULK AT MOST 1048576: true; the input reads as it did. -/
def serialMarksUptoRow : OpenClaim := { program := "ytpcohoeafldpmaa", sum := "6ebab5add1136a48d34617cf32e4b7e23e13ef2b2823a5da084854d8363353b7", func := "milestone/milestonelaw02.SerialMarks", spec := "serialMarks", apart := false, narrowed := true }
def SerialMarksUptoSaid : Prop := serialMarksUptoRow.holds Try.pinned (OpenSpec.upto serialMarksSpec)

/-- 'milestonelaw04.TallySums', WHERE WHAT IT READS IS OF BULK AT MOST 1048576: true; the input reads as it did. -/
def tallySumsUptoRow : OpenClaim := { program := "ytpcohoeafldpmaa", sum := "6ebab5add1136a48d34617cf32e4b7e23e13ef2b2823a5da084854d8363353b7", func := "milestone/milestonelaw04.TallySums", spec := "tallySums", apart := false, narrowed := true }
def TallySumsUptoSaid : Prop := tallySumsUptoRow.holds Try.pinned (OpenSpec.upto tallySumsSpec)

/-- 'milestonelaw04.TallyTurns', WHERE WHAT IT READS IS OF BULK AT MOST 1048576: true; the input reads as it did. -/
def tallyTurnsUptoRow : OpenClaim := { program := "ytpcohoeafldpmaa", sum := "6ebab5add1136a48d34617cf32e4b7e23e13ef2b2823a5da084854d8363353b7", func := "milestone/milestonelaw04.TallyTurns", spec := "tallyTurns", apart := false, narrowed := true }
def TallyTurnsUptoSaid : Prop := tallyTurnsUptoRow.holds Try.pinned (OpenSpec.upto tallyTurnsSpec)

/-- 'milestonelaw04.TallyTable', WHERE WHAT IT READS IS OF BULK AT MOST 1048576: true; the input reads as it did. -/
def tallyTableUptoRow : OpenClaim := { program := "ytpcohoeafldpmaa", sum := "6ebab5add1136a48d34617cf32e4b7e23e13ef2b2823a5da084854d8363353b7", func := "milestone/milestonelaw04.TallyTable", spec := "tallyTable", apart := false, narrowed := true }
def TallyTableUptoSaid : Prop := tallyTableUptoRow.holds Try.pinned (OpenSpec.upto tallyTableSpec)

end Rows
end Go.Proofs.Ytpcohoeafldpmaa
