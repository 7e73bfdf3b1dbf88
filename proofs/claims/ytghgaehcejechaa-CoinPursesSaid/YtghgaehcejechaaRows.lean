/-
  No cell of these rows narrows 'for every input' (looked for: loops, veiled, ifaces, maps, wideKeys, modest, calm, conditions, laid).
  DERIVED. THE GIVEN ROWS OF THIS SEAT. 6 by the template 'for every input the law returns true; each argument reads behind the call as it read before'; 0 by the template 'total and deterministic' (their statements: YtghgaehcejechaaTotals.lean).
  GIVEN WITH THE SEED: the statements are not yours to turn. If you find one false, say at which input.
  Laid BY PROGRAM, IN A SANDBOX (cutbox-rows.mjs): the forced cells as the released guide's own fill.sh prints them over the translation 5509c37aba053ae9… (all of the seat's roots in one cut). By AI agents, Wed Nov 11 2026. No macro, syntax, notation, axiom, sorry.
-/
import Derived.Test.YtghgaehcejechaaChecked
import GoSem.Claim
import GoSem.ClaimJoined
import GoSem.ClaimMapViews
import Derived.JoinedTies
import Derived.KernelRfl
namespace Go.Proofs.Ytghgaehcejechaa
/- THE CELL 'sum', in the pinned program and in every row, IS THE sha256 OF THE DUMP (.gsa) THAT YtghgaehcejechaaProg.lean LOADS. Nothing in Lean hashes anything: it is a label: what it is worth is what the hold of that sum in a sandbox is worth. -/
noncomputable def Try.pinned : Pinned := { name := "ytghgaehcejechaa", sum := "5509c37aba053ae914f22d5898ef1a70b3ac2a9e56c13be96ff1b0d46c461ba8", checked := Try.checked }
namespace Rows
def none {H : Type} : Left H := { results := [], args := [] }

/-- 'milestonelaw03.CoinOrders': WHATEVER THE INPUT: true; the input reads as it did. -/
def coinOrdersSpec : ChangeSpec := { name := "coinOrders", fn := fun _ => fun
  | [d1, d2, d3] => { results := [.lit (.bool true)], args := [d1, d2, d3] }
  | _ => none }
def coinOrdersRow : OpenClaim := { program := "ytghgaehcejechaa", sum := "5509c37aba053ae914f22d5898ef1a70b3ac2a9e56c13be96ff1b0d46c461ba8", func := "milestone/milestonelaw03.CoinOrders", spec := "coinOrders", apart := false }
def CoinOrdersSaid : Prop := coinOrdersRow.holds Try.pinned (OpenSpec.ofChange coinOrdersSpec)

/-- ITS FALSE NEIGHBOUR: 'it returns false'. Refute it at one input. -/
def coinOrdersWrong : ChangeSpec := { name := "coinOrders", fn := fun _ => fun
  | [d1, d2, d3] => { results := [.lit (.bool false)], args := [d1, d2, d3] }
  | _ => none }
def CoinOrdersWrongFalsely : Prop := coinOrdersRow.holds Try.pinned (OpenSpec.ofChange coinOrdersWrong)

/-- 'milestonelaw03.CoinFolds': WHATEVER THE INPUT: true; the input reads as it did. -/
def coinFoldsSpec : ChangeSpec := { name := "coinFolds", fn := fun _ => fun
  | [d1, d2] => { results := [.lit (.bool true)], args := [d1, d2] }
  | _ => none }
def coinFoldsRow : OpenClaim := { program := "ytghgaehcejechaa", sum := "5509c37aba053ae914f22d5898ef1a70b3ac2a9e56c13be96ff1b0d46c461ba8", func := "milestone/milestonelaw03.CoinFolds", spec := "coinFolds", apart := false }
def CoinFoldsSaid : Prop := coinFoldsRow.holds Try.pinned (OpenSpec.ofChange coinFoldsSpec)

/-- ITS FALSE NEIGHBOUR: 'it returns false'. Refute it at one input. -/
def coinFoldsWrong : ChangeSpec := { name := "coinFolds", fn := fun _ => fun
  | [d1, d2] => { results := [.lit (.bool false)], args := [d1, d2] }
  | _ => none }
def CoinFoldsWrongFalsely : Prop := coinFoldsRow.holds Try.pinned (OpenSpec.ofChange coinFoldsWrong)

/-- 'milestonelaw03.CoinPuts': WHATEVER THE INPUT: true; the input reads as it did. -/
def coinPutsSpec : ChangeSpec := { name := "coinPuts", fn := fun _ => fun
  | [d1, d2, d3] => { results := [.lit (.bool true)], args := [d1, d2, d3] }
  | _ => none }
def coinPutsRow : OpenClaim := { program := "ytghgaehcejechaa", sum := "5509c37aba053ae914f22d5898ef1a70b3ac2a9e56c13be96ff1b0d46c461ba8", func := "milestone/milestonelaw03.CoinPuts", spec := "coinPuts", apart := false }
def CoinPutsSaid : Prop := coinPutsRow.holds Try.pinned (OpenSpec.ofChange coinPutsSpec)

/-- ITS FALSE NEIGHBOUR: 'it returns false'. Refute it at one input. -/
def coinPutsWrong : ChangeSpec := { name := "coinPuts", fn := fun _ => fun
  | [d1, d2, d3] => { results := [.lit (.bool false)], args := [d1, d2, d3] }
  | _ => none }
def CoinPutsWrongFalsely : Prop := coinPutsRow.holds Try.pinned (OpenSpec.ofChange coinPutsWrong)

/-- 'milestonelaw03.CoinGets': WHATEVER THE INPUT: true; the input reads as it did. -/
def coinGetsSpec : ChangeSpec := { name := "coinGets", fn := fun _ => fun
  | [d1, d2] => { results := [.lit (.bool true)], args := [d1, d2] }
  | _ => none }
def coinGetsRow : OpenClaim := { program := "ytghgaehcejechaa", sum := "5509c37aba053ae914f22d5898ef1a70b3ac2a9e56c13be96ff1b0d46c461ba8", func := "milestone/milestonelaw03.CoinGets", spec := "coinGets", apart := false }
def CoinGetsSaid : Prop := coinGetsRow.holds Try.pinned (OpenSpec.ofChange coinGetsSpec)

/-- ITS FALSE NEIGHBOUR: 'it returns false'. Refute it at one input. -/
def coinGetsWrong : ChangeSpec := { name := "coinGets", fn := fun _ => fun
  | [d1, d2] => { results := [.lit (.bool false)], args := [d1, d2] }
  | _ => none }
def CoinGetsWrongFalsely : Prop := coinGetsRow.holds Try.pinned (OpenSpec.ofChange coinGetsWrong)

/-- 'milestonelaw03.CoinStreams': WHATEVER THE INPUT: true; the input reads as it did. -/
def coinStreamsSpec : ChangeSpec := { name := "coinStreams", fn := fun _ => fun
  | [d] => { results := [.lit (.bool true)], args := [d] }
  | _ => none }
def coinStreamsRow : OpenClaim := { program := "ytghgaehcejechaa", sum := "5509c37aba053ae914f22d5898ef1a70b3ac2a9e56c13be96ff1b0d46c461ba8", func := "milestone/milestonelaw03.CoinStreams", spec := "coinStreams", apart := false }
def CoinStreamsSaid : Prop := coinStreamsRow.holds Try.pinned (OpenSpec.ofChange coinStreamsSpec)

/-- ITS FALSE NEIGHBOUR: 'it returns false'. Refute it at one input. -/
def coinStreamsWrong : ChangeSpec := { name := "coinStreams", fn := fun _ => fun
  | [d] => { results := [.lit (.bool false)], args := [d] }
  | _ => none }
def CoinStreamsWrongFalsely : Prop := coinStreamsRow.holds Try.pinned (OpenSpec.ofChange coinStreamsWrong)

/-- 'milestonelaw03.CoinPurses': WHATEVER THE INPUT: true; the input reads as it did. -/
def coinPursesSpec : ChangeSpec := { name := "coinPurses", fn := fun _ => fun
  | [d1, d2] => { results := [.lit (.bool true)], args := [d1, d2] }
  | _ => none }
def coinPursesRow : OpenClaim := { program := "ytghgaehcejechaa", sum := "5509c37aba053ae914f22d5898ef1a70b3ac2a9e56c13be96ff1b0d46c461ba8", func := "milestone/milestonelaw03.CoinPurses", spec := "coinPurses", apart := false }
def CoinPursesSaid : Prop := coinPursesRow.holds Try.pinned (OpenSpec.ofChange coinPursesSpec)

/-- ITS FALSE NEIGHBOUR: 'it returns false'. Refute it at one input. -/
def coinPursesWrong : ChangeSpec := { name := "coinPurses", fn := fun _ => fun
  | [d1, d2] => { results := [.lit (.bool false)], args := [d1, d2] }
  | _ => none }
def CoinPursesWrongFalsely : Prop := coinPursesRow.holds Try.pinned (OpenSpec.ofChange coinPursesWrong)

/- THE SECOND FORM. 'bulk': how many values and letters a reading holds, each counted each time it is reached (what is shared counts as often as it is met; a slice's spare places count too). A statement '..UptoSaid' is the law's where the arguments, and the package variables that the reading takes, are together of bulk at most 1048576: NARROWER than '..Said'. Prove '..Said' where nothing that the law and all that it calls make is longer than what came in: it says more and counts as full. Else prove '..UptoSaid'. A law counts once. -/
mutual
def uptoBulk {H : Type} : DataW H → Nat
  | .lit (.string bytes) => bytes.length + 1
  | .lit _ => 1
  | .nil => 1
  | .ptr d => uptoBulk d + 1
  | .slice elems spare => uptoBulkAll elems + uptoBulkAll spare + 1
  | .agg parts => uptoBulkAll parts + 1
  | .iface _ d => uptoBulk d + 1
  | .map entries => uptoBulkEntries entries + 1
  | .held _ => 1
def uptoBulkAll {H : Type} : List (DataW H) → Nat
  | [] => 0
  | d :: r => uptoBulk d + uptoBulkAll r
def uptoBulkEntries {H : Type} : List (Lit × DataW H) → Nat
  | [] => 0
  | x :: r => uptoBulkEntry x + uptoBulkEntries r
def uptoBulkEntry {H : Type} : Lit × DataW H → Nat
  | (.string bytes, d) => bytes.length + uptoBulk d + 1
  | (_, d) => uptoBulk d + 1
 end
def uptoSmall : (H : Type) → List (DataW H) → Bool := fun _ ds => decide (uptoBulkAll ds ≤ 1048576)
def OpenSpec.upto (s : _root_.Go.ChangeSpec) : _root_.Go.OpenSpec := { _root_.Go.OpenSpec.ofChange s with cond := some uptoSmall }

/-- 'milestonelaw03.CoinOrders', WHERE WHAT IT READS IS OF BULK AT MOST 1048576: true; the input reads as it did. -/
def coinOrdersUptoRow : OpenClaim := { program := "ytghgaehcejechaa", sum := "5509c37aba053ae914f22d5898ef1a70b3ac2a9e56c13be96ff1b0d46c461ba8", func := "milestone/milestonelaw03.CoinOrders", spec := "coinOrders", apart := false, narrowed := true }
def CoinOrdersUptoSaid : Prop := coinOrdersUptoRow.holds Try.pinned (OpenSpec.upto coinOrdersSpec)

/-- 'milestonelaw03.CoinFolds', WHERE WHAT IT READS IS OF BULK AT MOST 1048576: true; the input reads as it did. -/
def coinFoldsUptoRow : OpenClaim := { program := "ytghgaehcejechaa", sum := "5509c37aba053ae914f22d5898ef1a70b3ac2a9e56c13be96ff1b0d46c461ba8", func := "milestone/milestonelaw03.CoinFolds", spec := "coinFolds", apart := false, narrowed := true }
def CoinFoldsUptoSaid : Prop := coinFoldsUptoRow.holds Try.pinned (OpenSpec.upto coinFoldsSpec)

/-- 'milestonelaw03.CoinPuts', WHERE WHAT IT READS IS OF BULK AT MOST 1048576: true; the input reads as it did. -/
def coinPutsUptoRow : OpenClaim := { program := "ytghgaehcejechaa", sum := "5509c37aba053ae914f22d5898ef1a70b3ac2a9e56c13be96ff1b0d46c461ba8", func := "milestone/milestonelaw03.CoinPuts", spec := "coinPuts", apart := false, narrowed := true }
def CoinPutsUptoSaid : Prop := coinPutsUptoRow.holds Try.pinned (OpenSpec.upto coinPutsSpec)

/-- 'milestonelaw03.CoinGets', WHERE WHAT IT READS IS OF BULK AT MOST 1048576: true; the input reads as it did. -/
def coinGetsUptoRow : OpenClaim := { program := "ytghgaehcejechaa", sum := "5509c37aba053ae914f22d5898ef1a70b3ac2a9e56c13be96ff1b0d46c461ba8", func := "milestone/milestonelaw03.CoinGets", spec := "coinGets", apart := false, narrowed := true }
def CoinGetsUptoSaid : Prop := coinGetsUptoRow.holds Try.pinned (OpenSpec.upto coinGetsSpec)

/-- 'milestonelaw03.CoinStreams', WHERE WHAT IT READS IS OF BULK AT MOST 1048576: true; the input reads as it did. -/
def coinStreamsUptoRow : OpenClaim := { program := "ytghgaehcejechaa", sum := "5509c37aba053ae914f22d5898ef1a70b3ac2a9e56c13be96ff1b0d46c461ba8", func := "milestone/milestonelaw03.CoinStreams", spec := "coinStreams", apart := false, narrowed := true }
def CoinStreamsUptoSaid : Prop := coinStreamsUptoRow.holds Try.pinned (OpenSpec.upto coinStreamsSpec)

/-- 'milestonelaw03.CoinPurses', WHERE WHAT IT READS IS OF BULK AT MOST 1048576: true; the input reads as it did. -/
def coinPursesUptoRow : OpenClaim := { program := "ytghgaehcejechaa", sum := "5509c37aba053ae914f22d5898ef1a70b3ac2a9e56c13be96ff1b0d46c461ba8", func := "milestone/milestonelaw03.CoinPurses", spec := "coinPurses", apart := false, narrowed := true }
def CoinPursesUptoSaid : Prop := coinPursesUptoRow.holds Try.pinned (OpenSpec.upto coinPursesSpec)

end Rows
end Go.Proofs.Ytghgaehcejechaa
