-- Lines by a program of this session, for this claim.
import Derived.Test.YtfjdijphpcddnaaDoorProg
import Derived.Below
import Derived.Deep.Draws
import Derived.Deep.AppendLies
import Derived.Maps.AppendAt
import Derived.OwnWalk
import Derived.Laws.BytesArg
import Derived.Laws.MakeOwn
import Derived.Laws.OwnMore
import Derived.Deep.OwnRows
import Derived.Tactics
import Derived.Lib.ConvBytes
import Derived.Laws.Slices
import Derived.WalkKit
import Derived.KernelRfl
import Derived.RowKit3
import Derived.Deep.LoopGhost
import Derived.Deep.QuietTactic
import Derived.BigQuiet
import Derived.WideLaws
import Derived.Deep.DeepCutAuto
import Derived.Deep.CutBlock
import Derived.Deep.RegionHeld3
import Derived.Laws.Rows
import Derived.Lib.AppendStr
import Derived.ArgAppend
import Derived.Laws.IdiomCopy
import Derived.OrdersHeld
import Derived.Laws.BitsLemmas
import Derived.RowKit
import Derived.Shelf.Small.Bits
import Derived.Shelf.LaysM
import Derived.Shelf.Strconv.Itoa3
import Derived.Laws.RangeString
import Derived.Laws.RangeAny
import Derived.Lib.OthersKept
import Derived.Lib.SmallJoins
import Derived.Lib.SlBytesConst
import Derived.BigRegion
import Derived.Laws.BitsAllLaws
import Derived.OpenShut
import Derived.RegionTactic
import Derived.ChangeAlike
import Derived.Test.YtfjdijphpcddnaaDoorWWords
import Derived.Test.YtfjdijphpcddnaaDoorWLast
import Derived.Test.YtfjdijphpcddnaaDoorWTab
import Derived.Test.YtfjdijphpcddnaaDoorWFour
import Derived.Test.YtfjdijphpcddnaaDoorWQPut
import Derived.Test.YtfjdijphpcddnaaDoorWApart
import Derived.Test.YtfjdijphpcddnaaDoorWArr
import Derived.Test.YtfjdijphpcddnaaDoorWZeros
import Derived.Test.YtfjdijphpcddnaaDoorWFoot
import Derived.Test.YtfjdijphpcddnaaDoorWKept
import Derived.Test.YtfjdijphpcddnaaDoorWShare
import Derived.Test.YtfjdijphpcddnaaDoorWN
import Derived.Test.YtfjdijphpcddnaaDoorWFootNe
import Derived.Test.YtfjdijphpcddnaaDoorWAt
import Derived.Test.YtfjdijphpcddnaaDoorWEqStruct
import Derived.Test.YtfjdijphpcddnaaDoorWRepsOne
import Derived.Test.YtfjdijphpcddnaaDoorWInv
import Derived.Test.YtfjdijphpcddnaaDoorWInvWords
import Derived.Test.YtfjdijphpcddnaaDoorWGuard
import Derived.Test.YtfjdijphpcddnaaDoorWNEv
import Derived.Test.YtfjdijphpcddnaaDoorWMore
namespace Go.Proofs.YtfjdijphpcddnaaDoor.QPrefixParses
open Go.RowKit Go.Proofs.YtfjdijphpcddnaaDoorW.PrintWords Go.Proofs.YtfjdijphpcddnaaDoorW.PrintLast Go.Proofs.YtfjdijphpcddnaaDoorW.PrintMore
attribute [local go_sem] max2_int min2_int max_two min_two max_three min_three max_four min_four   -- for this text's walks alone
set_option linter.unusedVariables false
set_option linter.unusedSimpArgs false



def errW : Option Int → Value
  | none => .nilIface
  | some c => .iface 0 (.int .i64 c)
theorem errW_none : errW none = .nilIface := rfl
theorem errW_some (c : Int) : errW (some c) = .iface 0 (.int .i64 c) := rfl

theorem qa_arr {l l' : List Value} (h : l = l') : l.toArray = l'.toArray := by rw [h]
theorem qa_cons {a b : Value} {l l' : List Value} (h : a = b) (h' : l = l') : a :: l = b :: l' := by rw [h, h']
theorem qa_int {k : IntKind} {a b : Int} (h : a = b) : Value.int k a = Value.int k b := by rw [h]
theorem qa_agg {l l' : Array Value} (h : l = l') : Value.agg l = Value.agg l' := by rw [h]

theorem info5 : (Tryd.prog.info? 5).map (fun i => (i.zero, i.size, i.bytes)) = some (some (.int .u8 0), 1, 1) := by kernel_rfl
-- the values' own types

end Go.Proofs.YtfjdijphpcddnaaDoor.QPrefixParses
