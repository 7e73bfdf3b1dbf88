/-
  No cell of these rows narrows 'for every input' (looked for: loops, veiled, ifaces, maps, wideKeys, modest, calm, conditions, laid).
  DERIVED. THE GIVEN ROWS OF THIS SEAT. 5 by the template 'for every input the law returns true; each argument reads behind the call as it read before'; 0 by the template 'total and deterministic' (their statements: YtnfdgpmdakciiaaTotals.lean).
  GIVEN WITH THE SEED: the statements are not yours to turn. If you find one false, say at which input.
  Laid BY PROGRAM, IN A SANDBOX (cutbox-rows.mjs): the forced cells as the released guide's own fill.sh prints them over the translation 37e2a73a23785de8… (all of the seat's roots in one cut). By AI agents, Wed Nov 11 2026. No macro, syntax, notation, axiom, sorry.
-/
import Derived.Test.YtnfdgpmdakciiaaChecked
import GoSem.Claim
import GoSem.ClaimJoined
import GoSem.ClaimMapViews
import Derived.JoinedTies
import Derived.KernelRfl
namespace Go.Proofs.Ytnfdgpmdakciiaa
/- THE CELL 'sum', in the pinned program and in every row, IS THE sha256 OF THE DUMP (.gsa) THAT YtnfdgpmdakciiaaProg.lean LOADS. Nothing in Lean hashes anything: it is a label: what it is worth is what the hold of that sum in a sandbox is worth. -/
noncomputable def Try.pinned : Pinned := { name := "ytnfdgpmdakciiaa", sum := "37e2a73a23785de8231ff71b7b72448dfbfb22a854675551c7005a3a516d89b5", checked := Try.checked }
namespace Rows
def none {H : Type} : Left H := { results := [], args := [] }

/-- 'milestonelaw13.MessageRights': WHATEVER THE INPUT: true; the input reads as it did. -/
def messageRightsSpec : ChangeSpec := { name := "messageRights", fn := fun _ => fun
  | [d1, d2] => { results := [.lit (.bool true)], args := [d1, d2] }
  | _ => none }
def messageRightsRow : OpenClaim := { program := "ytnfdgpmdakciiaa", sum := "37e2a73a23785de8231ff71b7b72448dfbfb22a854675551c7005a3a516d89b5", func := "milestone/milestonelaw13.MessageRights", spec := "messageRights", unfollowed := true, recurses := true, apart := false }
def MessageRightsSaid : Prop := messageRightsRow.holds Try.pinned (OpenSpec.ofChange messageRightsSpec)

/-- ITS FALSE NEIGHBOUR: 'it returns false'. Refute it at one input. -/
def messageRightsWrong : ChangeSpec := { name := "messageRights", fn := fun _ => fun
  | [d1, d2] => { results := [.lit (.bool false)], args := [d1, d2] }
  | _ => none }
def MessageRightsWrongFalsely : Prop := messageRightsRow.holds Try.pinned (OpenSpec.ofChange messageRightsWrong)

/-- 'milestonelaw13.MessageBytes': WHATEVER THE INPUT: true; the input reads as it did. -/
def messageBytesSpec : ChangeSpec := { name := "messageBytes", fn := fun _ => fun
  | [d1, d2] => { results := [.lit (.bool true)], args := [d1, d2] }
  | _ => none }
def messageBytesRow : OpenClaim := { program := "ytnfdgpmdakciiaa", sum := "37e2a73a23785de8231ff71b7b72448dfbfb22a854675551c7005a3a516d89b5", func := "milestone/milestonelaw13.MessageBytes", spec := "messageBytes", unfollowed := true, recurses := true, apart := false }
def MessageBytesSaid : Prop := messageBytesRow.holds Try.pinned (OpenSpec.ofChange messageBytesSpec)

/-- ITS FALSE NEIGHBOUR: 'it returns false'. Refute it at one input. -/
def messageBytesWrong : ChangeSpec := { name := "messageBytes", fn := fun _ => fun
  | [d1, d2] => { results := [.lit (.bool false)], args := [d1, d2] }
  | _ => none }
def MessageBytesWrongFalsely : Prop := messageBytesRow.holds Try.pinned (OpenSpec.ofChange messageBytesWrong)

/-- 'milestonelaw13.MessageTurns': WHATEVER THE INPUT: true; the input reads as it did. -/
def messageTurnsSpec : ChangeSpec := { name := "messageTurns", fn := fun _ => fun
  | [d1, d2, d3, d4, d5, d6] => { results := [.lit (.bool true)], args := [d1, d2, d3, d4, d5, d6] }
  | _ => none }
def messageTurnsRow : OpenClaim := { program := "ytnfdgpmdakciiaa", sum := "37e2a73a23785de8231ff71b7b72448dfbfb22a854675551c7005a3a516d89b5", func := "milestone/milestonelaw13.MessageTurns", spec := "messageTurns", unfollowed := true, recurses := true, apart := false }
def MessageTurnsSaid : Prop := messageTurnsRow.holds Try.pinned (OpenSpec.ofChange messageTurnsSpec)

/-- ITS FALSE NEIGHBOUR: 'it returns false'. Refute it at one input. -/
def messageTurnsWrong : ChangeSpec := { name := "messageTurns", fn := fun _ => fun
  | [d1, d2, d3, d4, d5, d6] => { results := [.lit (.bool false)], args := [d1, d2, d3, d4, d5, d6] }
  | _ => none }
def MessageTurnsWrongFalsely : Prop := messageTurnsRow.holds Try.pinned (OpenSpec.ofChange messageTurnsWrong)

/-- 'milestonelaw13.MessageReads': WHATEVER THE INPUT: true; the input reads as it did. -/
def messageReadsSpec : ChangeSpec := { name := "messageReads", fn := fun _ => fun
  | [d1, d2, d3, d4, d5] => { results := [.lit (.bool true)], args := [d1, d2, d3, d4, d5] }
  | _ => none }
def messageReadsRow : OpenClaim := { program := "ytnfdgpmdakciiaa", sum := "37e2a73a23785de8231ff71b7b72448dfbfb22a854675551c7005a3a516d89b5", func := "milestone/milestonelaw13.MessageReads", spec := "messageReads", unfollowed := true, recurses := true, apart := false }
def MessageReadsSaid : Prop := messageReadsRow.holds Try.pinned (OpenSpec.ofChange messageReadsSpec)

/-- ITS FALSE NEIGHBOUR: 'it returns false'. Refute it at one input. -/
def messageReadsWrong : ChangeSpec := { name := "messageReads", fn := fun _ => fun
  | [d1, d2, d3, d4, d5] => { results := [.lit (.bool false)], args := [d1, d2, d3, d4, d5] }
  | _ => none }
def MessageReadsWrongFalsely : Prop := messageReadsRow.holds Try.pinned (OpenSpec.ofChange messageReadsWrong)

/-- 'milestonelaw13.MessageMost': WHATEVER THE INPUT: true; the input reads as it did. -/
def messageMostSpec : ChangeSpec := { name := "messageMost", fn := fun _ => fun
  | [d] => { results := [.lit (.bool true)], args := [d] }
  | _ => none }
def messageMostRow : OpenClaim := { program := "ytnfdgpmdakciiaa", sum := "37e2a73a23785de8231ff71b7b72448dfbfb22a854675551c7005a3a516d89b5", func := "milestone/milestonelaw13.MessageMost", spec := "messageMost", unfollowed := true, recurses := true, apart := false }
def MessageMostSaid : Prop := messageMostRow.holds Try.pinned (OpenSpec.ofChange messageMostSpec)

/-- ITS FALSE NEIGHBOUR: 'it returns false'. Refute it at one input. -/
def messageMostWrong : ChangeSpec := { name := "messageMost", fn := fun _ => fun
  | [d] => { results := [.lit (.bool false)], args := [d] }
  | _ => none }
def MessageMostWrongFalsely : Prop := messageMostRow.holds Try.pinned (OpenSpec.ofChange messageMostWrong)

/- THE SECOND FORM. 'bulk': how many values and letters a reading holds, each counted each time it is reached (what is shared counts as often as it is met; a slice's spare places count too). A statement '..UptoSaid' is the law's where the arguments, and the package variables that the reading takes, are together of bulk at most 1048576: NARROWER than '..Said'. Prove '..Said' where nothing that the law and all that it calls make is longer than what came in: it says more and counts as full. Else prove '..UptoSaid'. A law counts once. -/
mutual
def uptoBulk {H : Type} : DataW H → Nat
  | .lit (.string bytes) => bytes.length + 1
  | .lit _ => 1
  | .nil => 1
  | .ptr d => uptoBulk d + 1
  | .slice elems spare => uptoBulkAll elems + uptoBulkAll spare + 1
  | .agg parts => uptoBulkAll parts + 1
  | .iface _ d => uptoBulk d + 1
  | .map entries => uptoBulkEntries entries + 1
  | .held _ => 1
def uptoBulkAll {H : Type} : List (DataW H) → Nat
  | [] => 0
  | d :: r => uptoBulk d + uptoBulkAll r
def uptoBulkEntries {H : Type} : List (Lit × DataW H) → Nat
  | [] => 0
  | x :: r => uptoBulkEntry x + uptoBulkEntries r
def uptoBulkEntry {H : Type} : Lit × DataW H → Nat
  | (.string bytes, d) => bytes.length + uptoBulk d + 1
  | (_, d) => uptoBulk d + 1
 end
def uptoSmall : (H : Type) → List (DataW H) → Bool := fun _ ds => decide (uptoBulkAll ds ≤ 1048576)
def OpenSpec.upto (s : _root_.Go.ChangeSpec) : _root_.Go.OpenSpec := { _root_.Go.OpenSpec.ofChange s with cond := some uptoSmall }

/-- 'milestonelaw13.MessageRights', WHERE WHAT IT READS IS OF BULK AT MOST 1048576: true; the input reads as it did. -/
def messageRightsUptoRow : OpenClaim := { program := "ytnfdgpmdakciiaa", sum := "37e2a73a23785de8231ff71b7b72448dfbfb22a854675551c7005a3a516d89b5", func := "milestone/milestonelaw13.MessageRights", spec := "messageRights", unfollowed := true, recurses := true, apart := false, narrowed := true }
def MessageRightsUptoSaid : Prop := messageRightsUptoRow.holds Try.pinned (OpenSpec.upto messageRightsSpec)

/-- 'milestonelaw13.MessageBytes', WHERE WHAT IT READS IS OF BULK AT MOST 1048576: true; the input reads as it did. -/
def messageBytesUptoRow : OpenClaim := { program := "ytnfdgpmdakciiaa", sum := "37e2a73a23785de8231ff71b7b72448dfbfb22a854675551c7005a3a516d89b5", func := "milestone/milestonelaw13.MessageBytes", spec := "messageBytes", unfollowed := true, recurses := true, apart := false, narrowed := true }
def MessageBytesUptoSaid : Prop := messageBytesUptoRow.holds Try.pinned (OpenSpec.upto messageBytesSpec)

/-- 'milestonelaw13.MessageTurns', WHERE WHAT IT READS IS OF BULK AT MOST 1048576: true; the input reads as it did. -/
def messageTurnsUptoRow : OpenClaim := { program := "ytnfdgpmdakciiaa", sum := "37e2a73a23785de8231ff71b7b72448dfbfb22a854675551c7005a3a516d89b5", func := "milestone/milestonelaw13.MessageTurns", spec := "messageTurns", unfollowed := true, recurses := true, apart := false, narrowed := true }
def MessageTurnsUptoSaid : Prop := messageTurnsUptoRow.holds Try.pinned (OpenSpec.upto messageTurnsSpec)

/-- 'milestonelaw13.MessageReads', WHERE WHAT IT READS IS OF BULK AT MOST 1048576: true; the input reads as it did. -/
def messageReadsUptoRow : OpenClaim := { program := "ytnfdgpmdakciiaa", sum := "37e2a73a23785de8231ff71b7b72448dfbfb22a854675551c7005a3a516d89b5", func := "milestone/milestonelaw13.MessageReads", spec := "messageReads", unfollowed := true, recurses := true, apart := false, narrowed := true }
def MessageReadsUptoSaid : Prop := messageReadsUptoRow.holds Try.pinned (OpenSpec.upto messageReadsSpec)

/-- 'milestonelaw13.MessageMost', WHERE WHAT IT READS IS OF BULK AT MOST 1048576: true; the input reads as it did. -/
def messageMostUptoRow : OpenClaim := { program := "ytnfdgpmdakciiaa", sum := "37e2a73a23785de8231ff71b7b72448dfbfb22a854675551c7005a3a516d89b5", func := "milestone/milestonelaw13.MessageMost", spec := "messageMost", unfollowed := true, recurses := true, apart := false, narrowed := true }
def MessageMostUptoSaid : Prop := messageMostUptoRow.holds Try.pinned (OpenSpec.upto messageMostSpec)

end Rows
end Go.Proofs.Ytnfdgpmdakciiaa
