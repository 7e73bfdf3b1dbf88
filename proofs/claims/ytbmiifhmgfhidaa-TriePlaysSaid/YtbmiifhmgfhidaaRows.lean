/-
  No cell of these rows narrows 'for every input' (looked for: loops, veiled, ifaces, maps, wideKeys, modest, calm, conditions, laid).
  DERIVED. THE GIVEN ROWS OF THIS SEAT. 4 by the template 'for every input the law returns true; each argument reads behind the call as it read before'; 0 by the template 'total and deterministic' (their statements: YtbmiifhmgfhidaaTotals.lean).
  GIVEN WITH THE SEED: the statements are not yours to turn. If you find one false, say at which input.
  Laid BY PROGRAM, IN A SANDBOX (cutbox-rows.mjs): the forced cells as the released guide's own fill.sh prints them over the translation c3aeb38bdd617a42… (all of the seat's roots in one cut). By AI agents, Wed Nov 11 2026. No macro, syntax, notation, axiom, sorry.
-/
import Derived.Test.YtbmiifhmgfhidaaChecked
import GoSem.Claim
import GoSem.ClaimJoined
import GoSem.ClaimMapViews
import Derived.JoinedTies
import Derived.KernelRfl
namespace Go.Proofs.Ytbmiifhmgfhidaa
/- THE CELL 'sum', in the pinned program and in every row, IS THE sha256 OF THE DUMP (.gsa) THAT YtbmiifhmgfhidaaProg.lean LOADS. Nothing in Lean hashes anything: it is a label: what it is worth is what the hold of that sum in a sandbox is worth. -/
noncomputable def Try.pinned : Pinned := { name := "ytbmiifhmgfhidaa", sum := "c3aeb38bdd617a42652b2bdd7eb2e2d39085470274ce817480598850c25c32fc", checked := Try.checked }
namespace Rows
def none {H : Type} : Left H := { results := [], args := [] }

/-- 'milestonelaw09.TrieRises': WHATEVER THE INPUT: true; the input reads as it did. -/
def trieRisesSpec : ChangeSpec := { name := "trieRises", fn := fun _ => fun
  | [d] => { results := [.lit (.bool true)], args := [d] }
  | _ => none }
def trieRisesRow : OpenClaim := { program := "ytbmiifhmgfhidaa", sum := "c3aeb38bdd617a42652b2bdd7eb2e2d39085470274ce817480598850c25c32fc", func := "milestone/milestonelaw09.TrieRises", spec := "trieRises", recurses := true, apart := false }
def TrieRisesSaid : Prop := trieRisesRow.holds Try.pinned (OpenSpec.ofChange trieRisesSpec)

/-- ITS FALSE NEIGHBOUR: 'it returns false'. Refute it at one input. -/
def trieRisesWrong : ChangeSpec := { name := "trieRises", fn := fun _ => fun
  | [d] => { results := [.lit (.bool false)], args := [d] }
  | _ => none }
def TrieRisesWrongFalsely : Prop := trieRisesRow.holds Try.pinned (OpenSpec.ofChange trieRisesWrong)

/-- 'milestonelaw09.TrieUndoes': WHATEVER THE INPUT: true; the input reads as it did. -/
def trieUndoesSpec : ChangeSpec := { name := "trieUndoes", fn := fun _ => fun
  | [d1, d2, d3] => { results := [.lit (.bool true)], args := [d1, d2, d3] }
  | _ => none }
def trieUndoesRow : OpenClaim := { program := "ytbmiifhmgfhidaa", sum := "c3aeb38bdd617a42652b2bdd7eb2e2d39085470274ce817480598850c25c32fc", func := "milestone/milestonelaw09.TrieUndoes", spec := "trieUndoes", recurses := true, apart := false }
def TrieUndoesSaid : Prop := trieUndoesRow.holds Try.pinned (OpenSpec.ofChange trieUndoesSpec)

/-- ITS FALSE NEIGHBOUR: 'it returns false'. Refute it at one input. -/
def trieUndoesWrong : ChangeSpec := { name := "trieUndoes", fn := fun _ => fun
  | [d1, d2, d3] => { results := [.lit (.bool false)], args := [d1, d2, d3] }
  | _ => none }
def TrieUndoesWrongFalsely : Prop := trieUndoesRow.holds Try.pinned (OpenSpec.ofChange trieUndoesWrong)

/-- 'milestonelaw09.TriePlays': WHATEVER THE INPUT: true; the input reads as it did. -/
def triePlaysSpec : ChangeSpec := { name := "triePlays", fn := fun _ => fun
  | [d1, d2] => { results := [.lit (.bool true)], args := [d1, d2] }
  | _ => none }
def triePlaysRow : OpenClaim := { program := "ytbmiifhmgfhidaa", sum := "c3aeb38bdd617a42652b2bdd7eb2e2d39085470274ce817480598850c25c32fc", func := "milestone/milestonelaw09.TriePlays", spec := "triePlays", recurses := true, apart := false }
def TriePlaysSaid : Prop := triePlaysRow.holds Try.pinned (OpenSpec.ofChange triePlaysSpec)

/-- ITS FALSE NEIGHBOUR: 'it returns false'. Refute it at one input. -/
def triePlaysWrong : ChangeSpec := { name := "triePlays", fn := fun _ => fun
  | [d1, d2] => { results := [.lit (.bool false)], args := [d1, d2] }
  | _ => none }
def TriePlaysWrongFalsely : Prop := triePlaysRow.holds Try.pinned (OpenSpec.ofChange triePlaysWrong)

/-- 'milestonelaw09.TrieNests': WHATEVER THE INPUT: true; the input reads as it did. -/
def trieNestsSpec : ChangeSpec := { name := "trieNests", fn := fun _ => fun
  | [d1, d2] => { results := [.lit (.bool true)], args := [d1, d2] }
  | _ => none }
def trieNestsRow : OpenClaim := { program := "ytbmiifhmgfhidaa", sum := "c3aeb38bdd617a42652b2bdd7eb2e2d39085470274ce817480598850c25c32fc", func := "milestone/milestonelaw09.TrieNests", spec := "trieNests", recurses := true, apart := false }
def TrieNestsSaid : Prop := trieNestsRow.holds Try.pinned (OpenSpec.ofChange trieNestsSpec)

/-- ITS FALSE NEIGHBOUR: 'it returns false'. Refute it at one input. -/
def trieNestsWrong : ChangeSpec := { name := "trieNests", fn := fun _ => fun
  | [d1, d2] => { results := [.lit (.bool false)], args := [d1, d2] }
  | _ => none }
def TrieNestsWrongFalsely : Prop := trieNestsRow.holds Try.pinned (OpenSpec.ofChange trieNestsWrong)

/- THE SECOND FORM. 'bulk': how many values and letters a reading holds, each counted each time it is reached (what is shared counts as often as it is met; a slice's spare places count too). A statement '..UptoSaid' is the law's where the arguments, and the package variables that the reading takes, are together of bulk at most 1048576: NARROWER than '..Said'. Prove '..Said' where nothing that the law and all that it calls make is longer than what came in: it says more and counts as full. Else prove '..UptoSaid'. A law counts once. -/
mutual
def uptoBulk {H : Type} : DataW H → Nat
  | .lit (.string bytes) => bytes.length + 1
  | .lit _ => 1
  | .nil => 1
  | .ptr d => uptoBulk d + 1
  | .slice elems spare => uptoBulkAll elems + uptoBulkAll spare + 1
  | .agg parts => uptoBulkAll parts + 1
  | .iface _ d => uptoBulk d + 1
  | .map entries => uptoBulkEntries entries + 1
  | .held _ => 1
def uptoBulkAll {H : Type} : List (DataW H) → Nat
  | [] => 0
  | d :: r => uptoBulk d + uptoBulkAll r
def uptoBulkEntries {H : Type} : List (Lit × DataW H) → Nat
  | [] => 0
  | x :: r => uptoBulkEntry x + uptoBulkEntries r
def uptoBulkEntry {H : Type} : Lit × DataW H → Nat
  | (.string bytes, d) => bytes.length + uptoBulk d + 1
  | (_, d) => uptoBulk d + 1
 end
def uptoSmall : (H : Type) → List (DataW H) → Bool := fun _ ds => decide (uptoBulkAll ds ≤ 1048576)
def OpenSpec.upto (s : _root_.Go.ChangeSpec) : _root_.Go.OpenSpec := { _root_.Go.OpenSpec.ofChange s with cond := some uptoSmall }

/-- 'milestonelaw09.TrieRises', WHERE WHAT IT READS IS OF BULK AT MOST 1048576: true; the input reads as it did. -/
def trieRisesUptoRow : OpenClaim := { program := "ytbmiifhmgfhidaa", sum := "c3aeb38bdd617a42652b2bdd7eb2e2d39085470274ce817480598850c25c32fc", func := "milestone/milestonelaw09.TrieRises", spec := "trieRises", recurses := true, apart := false, narrowed := true }
def TrieRisesUptoSaid : Prop := trieRisesUptoRow.holds Try.pinned (OpenSpec.upto trieRisesSpec)

/-- 'milestonelaw09.TrieUndoes', WHERE WHAT IT READS IS OF BULK AT MOST 1048576: true; the input reads as it did. -/
def trieUndoesUptoRow : OpenClaim := { program := "ytbmiifhmgfhidaa", sum := "c3aeb38bdd617a42652b2bdd7eb2e2d39085470274ce817480598850c25c32fc", func := "milestone/milestonelaw09.TrieUndoes", spec := "trieUndoes", recurses := true, apart := false, narrowed := true }
def TrieUndoesUptoSaid : Prop := trieUndoesUptoRow.holds Try.pinned (OpenSpec.upto trieUndoesSpec)

/-- 'milestonelaw09.TriePlays', WHERE WHAT IT READS IS OF BULK AT MOST 1048576: true; the input reads as it did. -/
def triePlaysUptoRow : OpenClaim := { program := "ytbmiifhmgfhidaa", sum := "c3aeb38bdd617a42652b2bdd7eb2e2d39085470274ce817480598850c25c32fc", func := "milestone/milestonelaw09.TriePlays", spec := "triePlays", recurses := true, apart := false, narrowed := true }
def TriePlaysUptoSaid : Prop := triePlaysUptoRow.holds Try.pinned (OpenSpec.upto triePlaysSpec)

/-- 'milestonelaw09.TrieNests', WHERE WHAT IT READS IS OF BULK AT MOST 1048576: true; the input reads as it did. -/
def trieNestsUptoRow : OpenClaim := { program := "ytbmiifhmgfhidaa", sum := "c3aeb38bdd617a42652b2bdd7eb2e2d39085470274ce817480598850c25c32fc", func := "milestone/milestonelaw09.TrieNests", spec := "trieNests", recurses := true, apart := false, narrowed := true }
def TrieNestsUptoSaid : Prop := trieNestsUptoRow.holds Try.pinned (OpenSpec.upto trieNestsSpec)

end Rows
end Go.Proofs.Ytbmiifhmgfhidaa
