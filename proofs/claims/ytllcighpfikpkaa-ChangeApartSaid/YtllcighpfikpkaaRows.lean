/-
  No cell of these rows narrows 'for every input' (looked for: loops, veiled, ifaces, maps, wideKeys, modest, calm, conditions, laid).
  DERIVED. THE GIVEN ROWS OF THIS SEAT. 8 by the template 'for every input the law returns true; each argument reads behind the call as it read before'; 0 by the template 'total and deterministic' (their statements: YtllcighpfikpkaaTotals.lean).
  GIVEN WITH THE SEED: the statements are not yours to turn. If you find one false, say at which input.
  Laid BY PROGRAM, IN A SANDBOX (cutbox-rows.mjs): the forced cells as the released guide's own fill.sh prints them over the translation a6fe8021015737c5… (all of the seat's roots in one cut). By AI agents, Wed Nov 11 2026. No macro, syntax, notation, axiom, sorry.
-/
import Derived.Test.YtllcighpfikpkaaChecked
import GoSem.Claim
import GoSem.ClaimJoined
import GoSem.ClaimMapViews
import Derived.JoinedTies
import Derived.KernelRfl
namespace Go.Proofs.Ytllcighpfikpkaa
/- THE CELL 'sum', in the pinned program and in every row, IS THE sha256 OF THE DUMP (.gsa) THAT YtllcighpfikpkaaProg.lean LOADS. Nothing in Lean hashes anything: it is a label: what it is worth is what the hold of that sum in a sandbox is worth. -/
noncomputable def Try.pinned : Pinned := { name := "ytllcighpfikpkaa", sum := "a6fe8021015737c52624b1b889d0807d98ad4bceb6042a3ed3f2b8ebb917259b", checked := Try.checked }
namespace Rows
def none {H : Type} : Left H := { results := [], args := [] }

/-- 'milestonelaw07.ChangeShort': WHATEVER THE INPUT: true; the input reads as it did. -/
def changeShortSpec : ChangeSpec := { name := "changeShort", fn := fun _ => fun
  | [d1, d2, d3, d4] => { results := [.lit (.bool true)], args := [d1, d2, d3, d4] }
  | _ => none }
def changeShortRow : OpenClaim := { program := "ytllcighpfikpkaa", sum := "a6fe8021015737c52624b1b889d0807d98ad4bceb6042a3ed3f2b8ebb917259b", func := "milestone/milestonelaw07.ChangeShort", spec := "changeShort", apart := false }
def ChangeShortSaid : Prop := changeShortRow.holds Try.pinned (OpenSpec.ofChange changeShortSpec)

/-- ITS FALSE NEIGHBOUR: 'it returns false'. Refute it at one input. -/
def changeShortWrong : ChangeSpec := { name := "changeShort", fn := fun _ => fun
  | [d1, d2, d3, d4] => { results := [.lit (.bool false)], args := [d1, d2, d3, d4] }
  | _ => none }
def ChangeShortWrongFalsely : Prop := changeShortRow.holds Try.pinned (OpenSpec.ofChange changeShortWrong)

/-- 'milestonelaw07.ChangeApart': WHATEVER THE INPUT: true; the input reads as it did. -/
def changeApartSpec : ChangeSpec := { name := "changeApart", fn := fun _ => fun
  | [d1, d2, d3] => { results := [.lit (.bool true)], args := [d1, d2, d3] }
  | _ => none }
def changeApartRow : OpenClaim := { program := "ytllcighpfikpkaa", sum := "a6fe8021015737c52624b1b889d0807d98ad4bceb6042a3ed3f2b8ebb917259b", func := "milestone/milestonelaw07.ChangeApart", spec := "changeApart", apart := false }
def ChangeApartSaid : Prop := changeApartRow.holds Try.pinned (OpenSpec.ofChange changeApartSpec)

/-- ITS FALSE NEIGHBOUR: 'it returns false'. Refute it at one input. -/
def changeApartWrong : ChangeSpec := { name := "changeApart", fn := fun _ => fun
  | [d1, d2, d3] => { results := [.lit (.bool false)], args := [d1, d2, d3] }
  | _ => none }
def ChangeApartWrongFalsely : Prop := changeApartRow.holds Try.pinned (OpenSpec.ofChange changeApartWrong)

/-- 'milestonelaw06.FrameScans': WHATEVER THE INPUT: true; the input reads as it did. -/
def frameScansSpec : ChangeSpec := { name := "frameScans", fn := fun _ => fun
  | [d1, d2] => { results := [.lit (.bool true)], args := [d1, d2] }
  | _ => none }
def frameScansRow : OpenClaim := { program := "ytllcighpfikpkaa", sum := "a6fe8021015737c52624b1b889d0807d98ad4bceb6042a3ed3f2b8ebb917259b", func := "milestone/milestonelaw06.FrameScans", spec := "frameScans", apart := false }
def FrameScansSaid : Prop := frameScansRow.holds Try.pinned (OpenSpec.ofChange frameScansSpec)

/-- ITS FALSE NEIGHBOUR: 'it returns false'. Refute it at one input. -/
def frameScansWrong : ChangeSpec := { name := "frameScans", fn := fun _ => fun
  | [d1, d2] => { results := [.lit (.bool false)], args := [d1, d2] }
  | _ => none }
def FrameScansWrongFalsely : Prop := frameScansRow.holds Try.pinned (OpenSpec.ofChange frameScansWrong)

/-- 'milestonelaw06.FrameCuts': WHATEVER THE INPUT: true; the input reads as it did. -/
def frameCutsSpec : ChangeSpec := { name := "frameCuts", fn := fun _ => fun
  | [d1, d2] => { results := [.lit (.bool true)], args := [d1, d2] }
  | _ => none }
def frameCutsRow : OpenClaim := { program := "ytllcighpfikpkaa", sum := "a6fe8021015737c52624b1b889d0807d98ad4bceb6042a3ed3f2b8ebb917259b", func := "milestone/milestonelaw06.FrameCuts", spec := "frameCuts", apart := false }
def FrameCutsSaid : Prop := frameCutsRow.holds Try.pinned (OpenSpec.ofChange frameCutsSpec)

/-- ITS FALSE NEIGHBOUR: 'it returns false'. Refute it at one input. -/
def frameCutsWrong : ChangeSpec := { name := "frameCuts", fn := fun _ => fun
  | [d1, d2] => { results := [.lit (.bool false)], args := [d1, d2] }
  | _ => none }
def FrameCutsWrongFalsely : Prop := frameCutsRow.holds Try.pinned (OpenSpec.ofChange frameCutsWrong)

/-- 'milestonelaw06.FrameTurns': WHATEVER THE INPUT: true; the input reads as it did. -/
def frameTurnsSpec : ChangeSpec := { name := "frameTurns", fn := fun _ => fun
  | [d1, d2, d3, d4] => { results := [.lit (.bool true)], args := [d1, d2, d3, d4] }
  | _ => none }
def frameTurnsRow : OpenClaim := { program := "ytllcighpfikpkaa", sum := "a6fe8021015737c52624b1b889d0807d98ad4bceb6042a3ed3f2b8ebb917259b", func := "milestone/milestonelaw06.FrameTurns", spec := "frameTurns", apart := false }
def FrameTurnsSaid : Prop := frameTurnsRow.holds Try.pinned (OpenSpec.ofChange frameTurnsSpec)

/-- ITS FALSE NEIGHBOUR: 'it returns false'. Refute it at one input. -/
def frameTurnsWrong : ChangeSpec := { name := "frameTurns", fn := fun _ => fun
  | [d1, d2, d3, d4] => { results := [.lit (.bool false)], args := [d1, d2, d3, d4] }
  | _ => none }
def FrameTurnsWrongFalsely : Prop := frameTurnsRow.holds Try.pinned (OpenSpec.ofChange frameTurnsWrong)

/-- 'milestonelaw06.FramePacks': WHATEVER THE INPUT: true; the input reads as it did. -/
def framePacksSpec : ChangeSpec := { name := "framePacks", fn := fun _ => fun
  | [d1, d2, d3, d4] => { results := [.lit (.bool true)], args := [d1, d2, d3, d4] }
  | _ => none }
def framePacksRow : OpenClaim := { program := "ytllcighpfikpkaa", sum := "a6fe8021015737c52624b1b889d0807d98ad4bceb6042a3ed3f2b8ebb917259b", func := "milestone/milestonelaw06.FramePacks", spec := "framePacks", apart := false }
def FramePacksSaid : Prop := framePacksRow.holds Try.pinned (OpenSpec.ofChange framePacksSpec)

/-- ITS FALSE NEIGHBOUR: 'it returns false'. Refute it at one input. -/
def framePacksWrong : ChangeSpec := { name := "framePacks", fn := fun _ => fun
  | [d1, d2, d3, d4] => { results := [.lit (.bool false)], args := [d1, d2, d3, d4] }
  | _ => none }
def FramePacksWrongFalsely : Prop := framePacksRow.holds Try.pinned (OpenSpec.ofChange framePacksWrong)

/-- 'milestonelaw07.ChangeBytes': WHATEVER THE INPUT: true; the input reads as it did. -/
def changeBytesSpec : ChangeSpec := { name := "changeBytes", fn := fun _ => fun
  | [d] => { results := [.lit (.bool true)], args := [d] }
  | _ => none }
def changeBytesRow : OpenClaim := { program := "ytllcighpfikpkaa", sum := "a6fe8021015737c52624b1b889d0807d98ad4bceb6042a3ed3f2b8ebb917259b", func := "milestone/milestonelaw07.ChangeBytes", spec := "changeBytes", apart := false }
def ChangeBytesSaid : Prop := changeBytesRow.holds Try.pinned (OpenSpec.ofChange changeBytesSpec)

/-- ITS FALSE NEIGHBOUR: 'it returns false'. Refute it at one input. -/
def changeBytesWrong : ChangeSpec := { name := "changeBytes", fn := fun _ => fun
  | [d] => { results := [.lit (.bool false)], args := [d] }
  | _ => none }
def ChangeBytesWrongFalsely : Prop := changeBytesRow.holds Try.pinned (OpenSpec.ofChange changeBytesWrong)

/-- 'milestonelaw07.ChangeChains': WHATEVER THE INPUT: true; the input reads as it did. -/
def changeChainsSpec : ChangeSpec := { name := "changeChains", fn := fun _ => fun
  | [d1, d2] => { results := [.lit (.bool true)], args := [d1, d2] }
  | _ => none }
def changeChainsRow : OpenClaim := { program := "ytllcighpfikpkaa", sum := "a6fe8021015737c52624b1b889d0807d98ad4bceb6042a3ed3f2b8ebb917259b", func := "milestone/milestonelaw07.ChangeChains", spec := "changeChains", apart := false }
def ChangeChainsSaid : Prop := changeChainsRow.holds Try.pinned (OpenSpec.ofChange changeChainsSpec)

/-- ITS FALSE NEIGHBOUR: 'it returns false'. Refute it at one input. -/
def changeChainsWrong : ChangeSpec := { name := "changeChains", fn := fun _ => fun
  | [d1, d2] => { results := [.lit (.bool false)], args := [d1, d2] }
  | _ => none }
def ChangeChainsWrongFalsely : Prop := changeChainsRow.holds Try.pinned (OpenSpec.ofChange changeChainsWrong)

/- THE SECOND FORM. 'bulk': how many values and letters a reading holds, each counted each time it is reached (what is shared counts as often as it is met; a slice's spare places count too). A statement '..UptoSaid' is the law's where the arguments, and the package variables that the reading takes, are together of bulk at most 1048576: NARROWER than '..Said'. Prove '..Said' where nothing that the law and all that it calls make is longer than what came in: it says more and counts as full. Else prove '..UptoSaid'. A law counts once. -/
mutual
def uptoBulk {H : Type} : DataW H → Nat
  | .lit (.string bytes) => bytes.length + 1
  | .lit _ => 1
  | .nil => 1
  | .ptr d => uptoBulk d + 1
  | .slice elems spare => uptoBulkAll elems + uptoBulkAll spare + 1
  | .agg parts => uptoBulkAll parts + 1
  | .iface _ d => uptoBulk d + 1
  | .map entries => uptoBulkEntries entries + 1
  | .held _ => 1
def uptoBulkAll {H : Type} : List (DataW H) → Nat
  | [] => 0
  | d :: r => uptoBulk d + uptoBulkAll r
def uptoBulkEntries {H : Type} : List (Lit × DataW H) → Nat
  | [] => 0
  | x :: r => uptoBulkEntry x + uptoBulkEntries r
def uptoBulkEntry {H : Type} : Lit × DataW H → Nat
  | (.string bytes, d) => bytes.length + uptoBulk d + 1
  | (_, d) => uptoBulk d + 1
 end
def uptoSmall : (H : Type) → List (DataW H) → Bool := fun _ ds => decide (uptoBulkAll ds ≤ 1048576)
def OpenSpec.upto (s : _root_.Go.ChangeSpec) : _root_.Go.OpenSpec := { _root_.Go.OpenSpec.ofChange s with cond := some uptoSmall }

/-- 'milestonelaw07.ChangeShort', WHERE WHAT IT READS IS OF BULK AT MOST 1048576: true; the input reads as it did. -/
def changeShortUptoRow : OpenClaim := { program := "ytllcighpfikpkaa", sum := "a6fe8021015737c52624b1b889d0807d98ad4bceb6042a3ed3f2b8ebb917259b", func := "milestone/milestonelaw07.ChangeShort", spec := "changeShort", apart := false, narrowed := true }
def ChangeShortUptoSaid : Prop := changeShortUptoRow.holds Try.pinned (OpenSpec.upto changeShortSpec)

/-- 'milestonelaw07.ChangeApart', WHERE WHAT IT READS IS OF BULK AT MOST 1048576: true; the input reads as it did. -/
def changeApartUptoRow : OpenClaim := { program := "ytllcighpfikpkaa", sum := "a6fe8021015737c52624b1b889d0807d98ad4bceb6042a3ed3f2b8ebb917259b", func := "milestone/milestonelaw07.ChangeApart", spec := "changeApart", apart := false, narrowed := true }
def ChangeApartUptoSaid : Prop := changeApartUptoRow.holds Try.pinned (OpenSpec.upto changeApartSpec)

/-- 'milestonelaw06.FrameScans', WHERE WHAT IT READS IS OF BULK AT MOST 1048576: true; the input reads as it did. -/
def frameScansUptoRow : OpenClaim := { program := "ytllcighpfikpkaa", sum := "a6fe8021015737c52624b1b889d0807d98ad4bceb6042a3ed3f2b8ebb917259b", func := "milestone/milestonelaw06.FrameScans", spec := "frameScans", apart := false, narrowed := true }
def FrameScansUptoSaid : Prop := frameScansUptoRow.holds Try.pinned (OpenSpec.upto frameScansSpec)

/-- 'milestonelaw06.FrameCuts', WHERE WHAT IT READS IS OF BULK AT MOST 1048576: true; the input reads as it did. -/
def frameCutsUptoRow : OpenClaim := { program := "ytllcighpfikpkaa", sum := "a6fe8021015737c52624b1b889d0807d98ad4bceb6042a3ed3f2b8ebb917259b", func := "milestone/milestonelaw06.FrameCuts", spec := "frameCuts", apart := false, narrowed := true }
def FrameCutsUptoSaid : Prop := frameCutsUptoRow.holds Try.pinned (OpenSpec.upto frameCutsSpec)

/-- 'milestonelaw06.FrameTurns', WHERE WHAT IT READS IS OF BULK AT MOST 1048576: true; the input reads as it did. -/
def frameTurnsUptoRow : OpenClaim := { program := "ytllcighpfikpkaa", sum := "a6fe8021015737c52624b1b889d0807d98ad4bceb6042a3ed3f2b8ebb917259b", func := "milestone/milestonelaw06.FrameTurns", spec := "frameTurns", apart := false, narrowed := true }
def FrameTurnsUptoSaid : Prop := frameTurnsUptoRow.holds Try.pinned (OpenSpec.upto frameTurnsSpec)

/-- 'milestonelaw06.FramePacks', WHERE WHAT IT READS IS OF BULK AT MOST 1048576: true; the input reads as it did. -/
def framePacksUptoRow : OpenClaim := { program := "ytllcighpfikpkaa", sum := "a6fe8021015737c52624b1b889d0807d98ad4bceb6042a3ed3f2b8ebb917259b", func := "milestone/milestonelaw06.FramePacks", spec := "framePacks", apart := false, narrowed := true }
def FramePacksUptoSaid : Prop := framePacksUptoRow.holds Try.pinned (OpenSpec.upto framePacksSpec)

/-- 'milestonelaw07.ChangeBytes', WHERE WHAT IT READS IS OF BULK AT MOST 1048576: true; the input reads as it did. -/
def changeBytesUptoRow : OpenClaim := { program := "ytllcighpfikpkaa", sum := "a6fe8021015737c52624b1b889d0807d98ad4bceb6042a3ed3f2b8ebb917259b", func := "milestone/milestonelaw07.ChangeBytes", spec := "changeBytes", apart := false, narrowed := true }
def ChangeBytesUptoSaid : Prop := changeBytesUptoRow.holds Try.pinned (OpenSpec.upto changeBytesSpec)

/-- 'milestonelaw07.ChangeChains', WHERE WHAT IT READS IS OF BULK AT MOST 1048576: true; the input reads as it did. -/
def changeChainsUptoRow : OpenClaim := { program := "ytllcighpfikpkaa", sum := "a6fe8021015737c52624b1b889d0807d98ad4bceb6042a3ed3f2b8ebb917259b", func := "milestone/milestonelaw07.ChangeChains", spec := "changeChains", apart := false, narrowed := true }
def ChangeChainsUptoSaid : Prop := changeChainsUptoRow.holds Try.pinned (OpenSpec.upto changeChainsSpec)

end Rows
end Go.Proofs.Ytllcighpfikpkaa
