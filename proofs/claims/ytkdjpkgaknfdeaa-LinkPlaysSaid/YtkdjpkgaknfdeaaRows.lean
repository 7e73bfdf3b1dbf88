/-
  No cell of these rows narrows 'for every input' (looked for: loops, veiled, ifaces, maps, wideKeys, modest, calm, conditions, laid).
  DERIVED. THE GIVEN ROWS OF THIS SEAT. 5 by the template 'for every input the law returns true; each argument reads behind the call as it read before'; 0 by the template 'total and deterministic' (their statements: YtkdjpkgaknfdeaaTotals.lean).
  GIVEN WITH THE SEED: the statements are not yours to turn. If you find one false, say at which input.
  Laid BY PROGRAM, IN A SANDBOX (cutbox-rows.mjs): the forced cells as the released guide's own fill.sh prints them over the translation 6cff9060335448c6… (all of the seat's roots in one cut). By AI agents, Wed Nov 11 2026. No macro, syntax, notation, axiom, sorry.
-/
import Derived.Test.YtkdjpkgaknfdeaaChecked
import GoSem.Claim
import GoSem.ClaimJoined
import GoSem.ClaimMapViews
import Derived.JoinedTies
import Derived.KernelRfl
namespace Go.Proofs.Ytkdjpkgaknfdeaa
/- THE CELL 'sum', in the pinned program and in every row, IS THE sha256 OF THE DUMP (.gsa) THAT YtkdjpkgaknfdeaaProg.lean LOADS. Nothing in Lean hashes anything: it is a label: what it is worth is what the hold of that sum in a sandbox is worth. -/
noncomputable def Try.pinned : Pinned := { name := "ytkdjpkgaknfdeaa", sum := "6cff9060335448c6c34c1880b5f06bd9139c7fe99693cbd62e8c3d63927e1332", checked := Try.checked }
namespace Rows
def none {H : Type} : Left H := { results := [], args := [] }

/-- 'milestonelaw14.LinkMisses': WHATEVER THE INPUT: true; the input reads as it did. -/
def linkMissesSpec : ChangeSpec := { name := "linkMisses", fn := fun _ => fun
  | [d] => { results := [.lit (.bool true)], args := [d] }
  | _ => none }
def linkMissesRow : OpenClaim := { program := "ytkdjpkgaknfdeaa", sum := "6cff9060335448c6c34c1880b5f06bd9139c7fe99693cbd62e8c3d63927e1332", func := "milestone/milestonelaw14.LinkMisses", spec := "linkMisses", apart := false }
def LinkMissesSaid : Prop := linkMissesRow.holds Try.pinned (OpenSpec.ofChange linkMissesSpec)

/-- ITS FALSE NEIGHBOUR: 'it returns false'. Refute it at one input. -/
def linkMissesWrong : ChangeSpec := { name := "linkMisses", fn := fun _ => fun
  | [d] => { results := [.lit (.bool false)], args := [d] }
  | _ => none }
def LinkMissesWrongFalsely : Prop := linkMissesRow.holds Try.pinned (OpenSpec.ofChange linkMissesWrong)

/-- 'milestonelaw14.LinkPlays': WHATEVER THE INPUT: true; the input reads as it did. -/
def linkPlaysSpec : ChangeSpec := { name := "linkPlays", fn := fun _ => fun
  | [d1, d2] => { results := [.lit (.bool true)], args := [d1, d2] }
  | _ => none }
def linkPlaysRow : OpenClaim := { program := "ytkdjpkgaknfdeaa", sum := "6cff9060335448c6c34c1880b5f06bd9139c7fe99693cbd62e8c3d63927e1332", func := "milestone/milestonelaw14.LinkPlays", spec := "linkPlays", apart := false }
def LinkPlaysSaid : Prop := linkPlaysRow.holds Try.pinned (OpenSpec.ofChange linkPlaysSpec)

/-- ITS FALSE NEIGHBOUR: 'it returns false'. Refute it at one input. -/
def linkPlaysWrong : ChangeSpec := { name := "linkPlays", fn := fun _ => fun
  | [d1, d2] => { results := [.lit (.bool false)], args := [d1, d2] }
  | _ => none }
def LinkPlaysWrongFalsely : Prop := linkPlaysRow.holds Try.pinned (OpenSpec.ofChange linkPlaysWrong)

/-- 'milestonelaw14.LinkDies': WHATEVER THE INPUT: true; the input reads as it did. -/
def linkDiesSpec : ChangeSpec := { name := "linkDies", fn := fun _ => fun
  | [d1, d2, d3] => { results := [.lit (.bool true)], args := [d1, d2, d3] }
  | _ => none }
def linkDiesRow : OpenClaim := { program := "ytkdjpkgaknfdeaa", sum := "6cff9060335448c6c34c1880b5f06bd9139c7fe99693cbd62e8c3d63927e1332", func := "milestone/milestonelaw14.LinkDies", spec := "linkDies", apart := false }
def LinkDiesSaid : Prop := linkDiesRow.holds Try.pinned (OpenSpec.ofChange linkDiesSpec)

/-- ITS FALSE NEIGHBOUR: 'it returns false'. Refute it at one input. -/
def linkDiesWrong : ChangeSpec := { name := "linkDies", fn := fun _ => fun
  | [d1, d2, d3] => { results := [.lit (.bool false)], args := [d1, d2, d3] }
  | _ => none }
def LinkDiesWrongFalsely : Prop := linkDiesRow.holds Try.pinned (OpenSpec.ofChange linkDiesWrong)

/-- 'milestonelaw14.LinkLives': WHATEVER THE INPUT: true; the input reads as it did. -/
def linkLivesSpec : ChangeSpec := { name := "linkLives", fn := fun _ => fun
  | [d1, d2, d3] => { results := [.lit (.bool true)], args := [d1, d2, d3] }
  | _ => none }
def linkLivesRow : OpenClaim := { program := "ytkdjpkgaknfdeaa", sum := "6cff9060335448c6c34c1880b5f06bd9139c7fe99693cbd62e8c3d63927e1332", func := "milestone/milestonelaw14.LinkLives", spec := "linkLives", apart := false }
def LinkLivesSaid : Prop := linkLivesRow.holds Try.pinned (OpenSpec.ofChange linkLivesSpec)

/-- ITS FALSE NEIGHBOUR: 'it returns false'. Refute it at one input. -/
def linkLivesWrong : ChangeSpec := { name := "linkLives", fn := fun _ => fun
  | [d1, d2, d3] => { results := [.lit (.bool false)], args := [d1, d2, d3] }
  | _ => none }
def LinkLivesWrongFalsely : Prop := linkLivesRow.holds Try.pinned (OpenSpec.ofChange linkLivesWrong)

/-- 'milestonelaw14.LinkNil': WHATEVER THE INPUT: true; the input reads as it did. -/
def linkNilSpec : ChangeSpec := { name := "linkNil", fn := fun _ => fun
  | [d1, d2, d3] => { results := [.lit (.bool true)], args := [d1, d2, d3] }
  | _ => none }
def linkNilRow : OpenClaim := { program := "ytkdjpkgaknfdeaa", sum := "6cff9060335448c6c34c1880b5f06bd9139c7fe99693cbd62e8c3d63927e1332", func := "milestone/milestonelaw14.LinkNil", spec := "linkNil", apart := false }
def LinkNilSaid : Prop := linkNilRow.holds Try.pinned (OpenSpec.ofChange linkNilSpec)

/-- ITS FALSE NEIGHBOUR: 'it returns false'. Refute it at one input. -/
def linkNilWrong : ChangeSpec := { name := "linkNil", fn := fun _ => fun
  | [d1, d2, d3] => { results := [.lit (.bool false)], args := [d1, d2, d3] }
  | _ => none }
def LinkNilWrongFalsely : Prop := linkNilRow.holds Try.pinned (OpenSpec.ofChange linkNilWrong)

/- THE SECOND FORM. 'bulk': how many values and letters a reading holds, each counted each time it is reached (what is shared counts as often as it is met; a slice's spare places count too). A statement '..UptoSaid' is the law's where the arguments, and the package variables that the reading takes, are together of bulk at most 1048576: NARROWER than '..Said'. Prove '..Said' where nothing that the law and all that it calls make is longer than what came in: it says more and counts as full. Else prove '..UptoSaid'. A law counts once. -/
mutual
def uptoBulk {H : Type} : DataW H → Nat
  | .lit (.string bytes) => bytes.length + 1
  | .lit _ => 1
  | .nil => 1
  | .ptr d => uptoBulk d + 1
  | .slice elems spare => uptoBulkAll elems + uptoBulkAll spare + 1
  | .agg parts => uptoBulkAll parts + 1
  | .iface _ d => uptoBulk d + 1
  | .map entries => uptoBulkEntries entries + 1
  | .held _ => 1
def uptoBulkAll {H : Type} : List (DataW H) → Nat
  | [] => 0
  | d :: r => uptoBulk d + uptoBulkAll r
def uptoBulkEntries {H : Type} : List (Lit × DataW H) → Nat
  | [] => 0
  | x :: r => uptoBulkEntry x + uptoBulkEntries r
def uptoBulkEntry {H : Type} : Lit × DataW H → Nat
  | (.string bytes, d) => bytes.length + uptoBulk d + 1
  | (_, d) => uptoBulk d + 1
 end
def uptoSmall : (H : Type) → List (DataW H) → Bool := fun _ ds => decide (uptoBulkAll ds ≤ 1048576)
def OpenSpec.upto (s : _root_.Go.ChangeSpec) : _root_.Go.OpenSpec := { _root_.Go.OpenSpec.ofChange s with cond := some uptoSmall }

/-- 'milestonelaw14.LinkMisses', WHERE WHAT IT READS IS OF BULK AT MOST 1048576: true; the input reads as it did. -/
def linkMissesUptoRow : OpenClaim := { program := "ytkdjpkgaknfdeaa", sum := "6cff9060335448c6c34c1880b5f06bd9139c7fe99693cbd62e8c3d63927e1332", func := "milestone/milestonelaw14.LinkMisses", spec := "linkMisses", apart := false, narrowed := true }
def LinkMissesUptoSaid : Prop := linkMissesUptoRow.holds Try.pinned (OpenSpec.upto linkMissesSpec)

/-- 'milestonelaw14.LinkPlays', WHERE WHAT IT READS IS OF BULK AT MOST 1048576: true; the input reads as it did. -/
def linkPlaysUptoRow : OpenClaim := { program := "ytkdjpkgaknfdeaa", sum := "6cff9060335448c6c34c1880b5f06bd9139c7fe99693cbd62e8c3d63927e1332", func := "milestone/milestonelaw14.LinkPlays", spec := "linkPlays", apart := false, narrowed := true }
def LinkPlaysUptoSaid : Prop := linkPlaysUptoRow.holds Try.pinned (OpenSpec.upto linkPlaysSpec)

/-- 'milestonelaw14.LinkDies', WHERE WHAT IT READS IS OF BULK AT MOST 1048576: true; the input reads as it did. -/
def linkDiesUptoRow : OpenClaim := { program := "ytkdjpkgaknfdeaa", sum := "6cff9060335448c6c34c1880b5f06bd9139c7fe99693cbd62e8c3d63927e1332", func := "milestone/milestonelaw14.LinkDies", spec := "linkDies", apart := false, narrowed := true }
def LinkDiesUptoSaid : Prop := linkDiesUptoRow.holds Try.pinned (OpenSpec.upto linkDiesSpec)

/-- 'milestonelaw14.LinkLives', WHERE WHAT IT READS IS OF BULK AT MOST 1048576: true; the input reads as it did. -/
def linkLivesUptoRow : OpenClaim := { program := "ytkdjpkgaknfdeaa", sum := "6cff9060335448c6c34c1880b5f06bd9139c7fe99693cbd62e8c3d63927e1332", func := "milestone/milestonelaw14.LinkLives", spec := "linkLives", apart := false, narrowed := true }
def LinkLivesUptoSaid : Prop := linkLivesUptoRow.holds Try.pinned (OpenSpec.upto linkLivesSpec)

/-- 'milestonelaw14.LinkNil', WHERE WHAT IT READS IS OF BULK AT MOST 1048576: true; the input reads as it did. -/
def linkNilUptoRow : OpenClaim := { program := "ytkdjpkgaknfdeaa", sum := "6cff9060335448c6c34c1880b5f06bd9139c7fe99693cbd62e8c3d63927e1332", func := "milestone/milestonelaw14.LinkNil", spec := "linkNil", apart := false, narrowed := true }
def LinkNilUptoSaid : Prop := linkNilUptoRow.holds Try.pinned (OpenSpec.upto linkNilSpec)

end Rows
end Go.Proofs.Ytkdjpkgaknfdeaa
