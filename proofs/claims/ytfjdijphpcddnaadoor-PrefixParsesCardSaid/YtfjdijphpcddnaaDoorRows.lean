/-
  NARROWER THAN 'FOR EVERY INPUT', by the rows' own cells (each row's printed sentence says how): PrefixOf: laid · PrefixHas: laid · PrefixCommon: laid · PrefixNests: laid · PrefixTexts: laid · PrefixParses: laid · PrefixOrders: laid.
  DERIVED. THE GIVEN ROWS OF THIS SEAT. 7 by the template 'for every input the law returns true; each argument reads behind the call as it read before'; 0 by the template 'total and deterministic' (their statements: YtfjdijphpcddnaaDoorTotals.lean).
  GIVEN WITH THE SEED: the statements are not yours to turn. If you find one false, say at which input.
  Laid BY PROGRAM, IN A SANDBOX (cutbox-rows.mjs): the forced cells as the released guide's own fill.sh prints them over the translation 9738ef5433dd4fe8… (all of the seat's roots in one cut). By AI agents, Wed Nov 11 2026. No macro, syntax, notation, axiom, sorry.
-/
import Derived.Test.YtfjdijphpcddnaaDoorChecked
import GoSem.Claim
import GoSem.ClaimJoined
import GoSem.ClaimMapViews
import Derived.JoinedTies
import Derived.KernelRfl
namespace Go.Proofs.YtfjdijphpcddnaaDoor
/- THE CELL 'sum', in the pinned program and in every row, IS THE sha256 OF THE DUMP (.gsa) THAT YtfjdijphpcddnaaDoorProg.lean LOADS. Nothing in Lean hashes anything: it is a label: what it is worth is what the hold of that sum in a sandbox is worth. -/
noncomputable def Tryd.pinned : Pinned := { name := "ytfjdijphpcddnaadoor", sum := "9738ef5433dd4fe8e8ef0fd14f585e0bb03e540bce82458a984dd59d79d92e5d", checked := Tryd.checked }
namespace Rows
def none {H : Type} : Left H := { results := [], args := [] }

/- WHAT THE LISTED PACKAGE-LEVEL VARIABLES READ AS WHEN THE CALL BEGINS. Each datum BY PROGRAM (the guide's laid-datum.mjs) off the statement by which the dump's own 'gosem.cut.vars' lays the variable. In a bare row this is a premise. The card (YtfjdijphpcddnaaDoorCards.lean) ties it to the program's text. -/
def laid_math_bits_deBruijn32tab {H : Type} : DataW H := .agg [.lit (.int .u8 0), .lit (.int .u8 1), .lit (.int .u8 28), .lit (.int .u8 2), .lit (.int .u8 29), .lit (.int .u8 14), .lit (.int .u8 24), .lit (.int .u8 3), .lit (.int .u8 30), .lit (.int .u8 22), .lit (.int .u8 20), .lit (.int .u8 15), .lit (.int .u8 25), .lit (.int .u8 17), .lit (.int .u8 4), .lit (.int .u8 8), .lit (.int .u8 31), .lit (.int .u8 27), .lit (.int .u8 13), .lit (.int .u8 23), .lit (.int .u8 21), .lit (.int .u8 19), .lit (.int .u8 16), .lit (.int .u8 7), .lit (.int .u8 26), .lit (.int .u8 12), .lit (.int .u8 18), .lit (.int .u8 6), .lit (.int .u8 11), .lit (.int .u8 5), .lit (.int .u8 10), .lit (.int .u8 9)]
def laid_math_bits_deBruijn64tab {H : Type} : DataW H := .agg [.lit (.int .u8 0), .lit (.int .u8 1), .lit (.int .u8 56), .lit (.int .u8 2), .lit (.int .u8 57), .lit (.int .u8 49), .lit (.int .u8 28), .lit (.int .u8 3), .lit (.int .u8 61), .lit (.int .u8 58), .lit (.int .u8 42), .lit (.int .u8 50), .lit (.int .u8 38), .lit (.int .u8 29), .lit (.int .u8 17), .lit (.int .u8 4), .lit (.int .u8 62), .lit (.int .u8 47), .lit (.int .u8 59), .lit (.int .u8 36), .lit (.int .u8 45), .lit (.int .u8 43), .lit (.int .u8 51), .lit (.int .u8 22), .lit (.int .u8 53), .lit (.int .u8 39), .lit (.int .u8 33), .lit (.int .u8 30), .lit (.int .u8 24), .lit (.int .u8 18), .lit (.int .u8 12), .lit (.int .u8 5), .lit (.int .u8 63), .lit (.int .u8 55), .lit (.int .u8 48), .lit (.int .u8 27), .lit (.int .u8 60), .lit (.int .u8 41), .lit (.int .u8 37), .lit (.int .u8 16), .lit (.int .u8 46), .lit (.int .u8 35), .lit (.int .u8 44), .lit (.int .u8 21), .lit (.int .u8 52), .lit (.int .u8 32), .lit (.int .u8 23), .lit (.int .u8 11), .lit (.int .u8 54), .lit (.int .u8 26), .lit (.int .u8 40), .lit (.int .u8 15), .lit (.int .u8 34), .lit (.int .u8 20), .lit (.int .u8 31), .lit (.int .u8 10), .lit (.int .u8 25), .lit (.int .u8 14), .lit (.int .u8 19), .lit (.int .u8 9), .lit (.int .u8 13), .lit (.int .u8 8), .lit (.int .u8 7), .lit (.int .u8 6)]
def laid_internal_strconv_uint64pow10 {H : Type} : DataW H := .agg [.lit (.int .u64 1), .lit (.int .u64 10), .lit (.int .u64 100), .lit (.int .u64 1000), .lit (.int .u64 10000), .lit (.int .u64 100000), .lit (.int .u64 1000000), .lit (.int .u64 10000000), .lit (.int .u64 100000000), .lit (.int .u64 1000000000), .lit (.int .u64 10000000000), .lit (.int .u64 100000000000), .lit (.int .u64 1000000000000), .lit (.int .u64 10000000000000), .lit (.int .u64 100000000000000), .lit (.int .u64 1000000000000000), .lit (.int .u64 10000000000000000), .lit (.int .u64 100000000000000000), .lit (.int .u64 1000000000000000000), .lit (.int .u64 10000000000000000000)]

/-- 'milestonelaw01.PrefixOf': WHATEVER THE INPUT: true; the input reads as it did. -/
def prefixOfSpec : ChangeSpec := { name := "prefixOf", fn := fun _ => fun
  | [d1, d2, d3] => { results := [.lit (.bool true)], args := [d1, d2, d3] }
  | _ => none }
def prefixOfRow : OpenClaim := { program := "ytfjdijphpcddnaadoor", sum := "9738ef5433dd4fe8e8ef0fd14f585e0bb03e540bce82458a984dd59d79d92e5d", func := "milestone/milestonelaw01.PrefixOf", spec := "prefixOf", named := ["internal/strconv.uint64pow10", "math/bits.deBruijn32tab", "math/bits.deBruijn64tab"], apart := false, laid := [("math/bits.deBruijn32tab", laid_math_bits_deBruijn32tab), ("math/bits.deBruijn64tab", laid_math_bits_deBruijn64tab), ("internal/strconv.uint64pow10", laid_internal_strconv_uint64pow10)] }
def PrefixOfSaid : Prop := prefixOfRow.holds Tryd.pinned (OpenSpec.ofChange prefixOfSpec)

/-- ITS FALSE NEIGHBOUR: 'it returns false'. Refute it at one input. -/
def prefixOfWrong : ChangeSpec := { name := "prefixOf", fn := fun _ => fun
  | [d1, d2, d3] => { results := [.lit (.bool false)], args := [d1, d2, d3] }
  | _ => none }
def PrefixOfWrongFalsely : Prop := prefixOfRow.holds Tryd.pinned (OpenSpec.ofChange prefixOfWrong)

/-- 'milestonelaw01.PrefixHas': WHATEVER THE INPUT: true; the input reads as it did. -/
def prefixHasSpec : ChangeSpec := { name := "prefixHas", fn := fun _ => fun
  | [d1, d2, d3, d4, d5] => { results := [.lit (.bool true)], args := [d1, d2, d3, d4, d5] }
  | _ => none }
def prefixHasRow : OpenClaim := { program := "ytfjdijphpcddnaadoor", sum := "9738ef5433dd4fe8e8ef0fd14f585e0bb03e540bce82458a984dd59d79d92e5d", func := "milestone/milestonelaw01.PrefixHas", spec := "prefixHas", named := ["internal/strconv.uint64pow10", "math/bits.deBruijn32tab", "math/bits.deBruijn64tab"], apart := false, laid := [("math/bits.deBruijn32tab", laid_math_bits_deBruijn32tab), ("math/bits.deBruijn64tab", laid_math_bits_deBruijn64tab), ("internal/strconv.uint64pow10", laid_internal_strconv_uint64pow10)] }
def PrefixHasSaid : Prop := prefixHasRow.holds Tryd.pinned (OpenSpec.ofChange prefixHasSpec)

/-- ITS FALSE NEIGHBOUR: 'it returns false'. Refute it at one input. -/
def prefixHasWrong : ChangeSpec := { name := "prefixHas", fn := fun _ => fun
  | [d1, d2, d3, d4, d5] => { results := [.lit (.bool false)], args := [d1, d2, d3, d4, d5] }
  | _ => none }
def PrefixHasWrongFalsely : Prop := prefixHasRow.holds Tryd.pinned (OpenSpec.ofChange prefixHasWrong)

/-- 'milestonelaw01.PrefixCommon': WHATEVER THE INPUT: true; the input reads as it did. -/
def prefixCommonSpec : ChangeSpec := { name := "prefixCommon", fn := fun _ => fun
  | [d1, d2, d3, d4, d5] => { results := [.lit (.bool true)], args := [d1, d2, d3, d4, d5] }
  | _ => none }
def prefixCommonRow : OpenClaim := { program := "ytfjdijphpcddnaadoor", sum := "9738ef5433dd4fe8e8ef0fd14f585e0bb03e540bce82458a984dd59d79d92e5d", func := "milestone/milestonelaw01.PrefixCommon", spec := "prefixCommon", named := ["internal/strconv.uint64pow10", "math/bits.deBruijn32tab", "math/bits.deBruijn64tab"], apart := false, laid := [("math/bits.deBruijn32tab", laid_math_bits_deBruijn32tab), ("math/bits.deBruijn64tab", laid_math_bits_deBruijn64tab), ("internal/strconv.uint64pow10", laid_internal_strconv_uint64pow10)] }
def PrefixCommonSaid : Prop := prefixCommonRow.holds Tryd.pinned (OpenSpec.ofChange prefixCommonSpec)

/-- ITS FALSE NEIGHBOUR: 'it returns false'. Refute it at one input. -/
def prefixCommonWrong : ChangeSpec := { name := "prefixCommon", fn := fun _ => fun
  | [d1, d2, d3, d4, d5] => { results := [.lit (.bool false)], args := [d1, d2, d3, d4, d5] }
  | _ => none }
def PrefixCommonWrongFalsely : Prop := prefixCommonRow.holds Tryd.pinned (OpenSpec.ofChange prefixCommonWrong)

/-- 'milestonelaw01.PrefixNests': WHATEVER THE INPUT: true; the input reads as it did. -/
def prefixNestsSpec : ChangeSpec := { name := "prefixNests", fn := fun _ => fun
  | [d1, d2, d3, d4, d5] => { results := [.lit (.bool true)], args := [d1, d2, d3, d4, d5] }
  | _ => none }
def prefixNestsRow : OpenClaim := { program := "ytfjdijphpcddnaadoor", sum := "9738ef5433dd4fe8e8ef0fd14f585e0bb03e540bce82458a984dd59d79d92e5d", func := "milestone/milestonelaw01.PrefixNests", spec := "prefixNests", named := ["internal/strconv.uint64pow10", "math/bits.deBruijn32tab", "math/bits.deBruijn64tab"], apart := false, laid := [("math/bits.deBruijn32tab", laid_math_bits_deBruijn32tab), ("math/bits.deBruijn64tab", laid_math_bits_deBruijn64tab), ("internal/strconv.uint64pow10", laid_internal_strconv_uint64pow10)] }
def PrefixNestsSaid : Prop := prefixNestsRow.holds Tryd.pinned (OpenSpec.ofChange prefixNestsSpec)

/-- ITS FALSE NEIGHBOUR: 'it returns false'. Refute it at one input. -/
def prefixNestsWrong : ChangeSpec := { name := "prefixNests", fn := fun _ => fun
  | [d1, d2, d3, d4, d5] => { results := [.lit (.bool false)], args := [d1, d2, d3, d4, d5] }
  | _ => none }
def PrefixNestsWrongFalsely : Prop := prefixNestsRow.holds Tryd.pinned (OpenSpec.ofChange prefixNestsWrong)

/-- 'milestonelaw01.PrefixTexts': WHATEVER THE INPUT: true; the input reads as it did. -/
def prefixTextsSpec : ChangeSpec := { name := "prefixTexts", fn := fun _ => fun
  | [d1, d2] => { results := [.lit (.bool true)], args := [d1, d2] }
  | _ => none }
def prefixTextsRow : OpenClaim := { program := "ytfjdijphpcddnaadoor", sum := "9738ef5433dd4fe8e8ef0fd14f585e0bb03e540bce82458a984dd59d79d92e5d", func := "milestone/milestonelaw01.PrefixTexts", spec := "prefixTexts", recurses := true, named := ["internal/strconv.uint64pow10", "math/bits.deBruijn32tab", "math/bits.deBruijn64tab"], apart := false, laid := [("math/bits.deBruijn32tab", laid_math_bits_deBruijn32tab), ("math/bits.deBruijn64tab", laid_math_bits_deBruijn64tab), ("internal/strconv.uint64pow10", laid_internal_strconv_uint64pow10)] }
def PrefixTextsSaid : Prop := prefixTextsRow.holds Tryd.pinned (OpenSpec.ofChange prefixTextsSpec)

/-- ITS FALSE NEIGHBOUR: 'it returns false'. Refute it at one input. -/
def prefixTextsWrong : ChangeSpec := { name := "prefixTexts", fn := fun _ => fun
  | [d1, d2] => { results := [.lit (.bool false)], args := [d1, d2] }
  | _ => none }
def PrefixTextsWrongFalsely : Prop := prefixTextsRow.holds Tryd.pinned (OpenSpec.ofChange prefixTextsWrong)

/-- 'milestonelaw01.PrefixParses': WHATEVER THE INPUT: true; the input reads as it did. -/
def prefixParsesSpec : ChangeSpec := { name := "prefixParses", fn := fun _ => fun
  | [d1, d2, d3, d4, d5] => { results := [.lit (.bool true)], args := [d1, d2, d3, d4, d5] }
  | _ => none }
def prefixParsesRow : OpenClaim := { program := "ytfjdijphpcddnaadoor", sum := "9738ef5433dd4fe8e8ef0fd14f585e0bb03e540bce82458a984dd59d79d92e5d", func := "milestone/milestonelaw01.PrefixParses", spec := "prefixParses", recurses := true, named := ["internal/strconv.uint64pow10", "math/bits.deBruijn32tab", "math/bits.deBruijn64tab"], apart := false, laid := [("math/bits.deBruijn32tab", laid_math_bits_deBruijn32tab), ("math/bits.deBruijn64tab", laid_math_bits_deBruijn64tab), ("internal/strconv.uint64pow10", laid_internal_strconv_uint64pow10)] }
def PrefixParsesSaid : Prop := prefixParsesRow.holds Tryd.pinned (OpenSpec.ofChange prefixParsesSpec)

/-- ITS FALSE NEIGHBOUR: 'it returns false'. Refute it at one input. -/
def prefixParsesWrong : ChangeSpec := { name := "prefixParses", fn := fun _ => fun
  | [d1, d2, d3, d4, d5] => { results := [.lit (.bool false)], args := [d1, d2, d3, d4, d5] }
  | _ => none }
def PrefixParsesWrongFalsely : Prop := prefixParsesRow.holds Tryd.pinned (OpenSpec.ofChange prefixParsesWrong)

/-- 'milestonelaw01.PrefixOrders': WHATEVER THE INPUT: true; the input reads as it did. -/
def prefixOrdersSpec : ChangeSpec := { name := "prefixOrders", fn := fun _ => fun
  | [d1, d2, d3, d4, d5] => { results := [.lit (.bool true)], args := [d1, d2, d3, d4, d5] }
  | _ => none }
def prefixOrdersRow : OpenClaim := { program := "ytfjdijphpcddnaadoor", sum := "9738ef5433dd4fe8e8ef0fd14f585e0bb03e540bce82458a984dd59d79d92e5d", func := "milestone/milestonelaw01.PrefixOrders", spec := "prefixOrders", named := ["internal/strconv.uint64pow10", "math/bits.deBruijn32tab", "math/bits.deBruijn64tab"], apart := false, laid := [("math/bits.deBruijn32tab", laid_math_bits_deBruijn32tab), ("math/bits.deBruijn64tab", laid_math_bits_deBruijn64tab), ("internal/strconv.uint64pow10", laid_internal_strconv_uint64pow10)] }
def PrefixOrdersSaid : Prop := prefixOrdersRow.holds Tryd.pinned (OpenSpec.ofChange prefixOrdersSpec)

/-- ITS FALSE NEIGHBOUR: 'it returns false'. Refute it at one input. -/
def prefixOrdersWrong : ChangeSpec := { name := "prefixOrders", fn := fun _ => fun
  | [d1, d2, d3, d4, d5] => { results := [.lit (.bool false)], args := [d1, d2, d3, d4, d5] }
  | _ => none }
def PrefixOrdersWrongFalsely : Prop := prefixOrdersRow.holds Tryd.pinned (OpenSpec.ofChange prefixOrdersWrong)

/- THE SECOND FORM. 'bulk': how many values and letters a reading holds, each counted each time it is reached (what is shared counts as often as it is met; a slice's spare places count too). A statement '..UptoSaid' is the law's where the arguments, and the package variables that the reading takes, are together of bulk at most 1048576: NARROWER than '..Said'. Prove '..Said' where nothing that the law and all that it calls make is longer than what came in: it says more and counts as full. Else prove '..UptoSaid'. A law counts once. -/
mutual
def uptoBulk {H : Type} : DataW H → Nat
  | .lit (.string bytes) => bytes.length + 1
  | .lit _ => 1
  | .nil => 1
  | .ptr d => uptoBulk d + 1
  | .slice elems spare => uptoBulkAll elems + uptoBulkAll spare + 1
  | .agg parts => uptoBulkAll parts + 1
  | .iface _ d => uptoBulk d + 1
  | .map entries => uptoBulkEntries entries + 1
  | .held _ => 1
def uptoBulkAll {H : Type} : List (DataW H) → Nat
  | [] => 0
  | d :: r => uptoBulk d + uptoBulkAll r
def uptoBulkEntries {H : Type} : List (Lit × DataW H) → Nat
  | [] => 0
  | x :: r => uptoBulkEntry x + uptoBulkEntries r
def uptoBulkEntry {H : Type} : Lit × DataW H → Nat
  | (.string bytes, d) => bytes.length + uptoBulk d + 1
  | (_, d) => uptoBulk d + 1
 end
def uptoSmall : (H : Type) → List (DataW H) → Bool := fun _ ds => decide (uptoBulkAll ds ≤ 1048576)
def OpenSpec.upto (s : _root_.Go.ChangeSpec) : _root_.Go.OpenSpec := { _root_.Go.OpenSpec.ofChange s with cond := some uptoSmall }

/-- 'milestonelaw01.PrefixOf', WHERE WHAT IT READS IS OF BULK AT MOST 1048576: true; the input reads as it did. -/
def prefixOfUptoRow : OpenClaim := { program := "ytfjdijphpcddnaadoor", sum := "9738ef5433dd4fe8e8ef0fd14f585e0bb03e540bce82458a984dd59d79d92e5d", func := "milestone/milestonelaw01.PrefixOf", spec := "prefixOf", named := ["internal/strconv.uint64pow10", "math/bits.deBruijn32tab", "math/bits.deBruijn64tab"], apart := false, laid := [("math/bits.deBruijn32tab", laid_math_bits_deBruijn32tab), ("math/bits.deBruijn64tab", laid_math_bits_deBruijn64tab), ("internal/strconv.uint64pow10", laid_internal_strconv_uint64pow10)], narrowed := true }
def PrefixOfUptoSaid : Prop := prefixOfUptoRow.holds Tryd.pinned (OpenSpec.upto prefixOfSpec)

/-- 'milestonelaw01.PrefixHas', WHERE WHAT IT READS IS OF BULK AT MOST 1048576: true; the input reads as it did. -/
def prefixHasUptoRow : OpenClaim := { program := "ytfjdijphpcddnaadoor", sum := "9738ef5433dd4fe8e8ef0fd14f585e0bb03e540bce82458a984dd59d79d92e5d", func := "milestone/milestonelaw01.PrefixHas", spec := "prefixHas", named := ["internal/strconv.uint64pow10", "math/bits.deBruijn32tab", "math/bits.deBruijn64tab"], apart := false, laid := [("math/bits.deBruijn32tab", laid_math_bits_deBruijn32tab), ("math/bits.deBruijn64tab", laid_math_bits_deBruijn64tab), ("internal/strconv.uint64pow10", laid_internal_strconv_uint64pow10)], narrowed := true }
def PrefixHasUptoSaid : Prop := prefixHasUptoRow.holds Tryd.pinned (OpenSpec.upto prefixHasSpec)

/-- 'milestonelaw01.PrefixCommon', WHERE WHAT IT READS IS OF BULK AT MOST 1048576: true; the input reads as it did. -/
def prefixCommonUptoRow : OpenClaim := { program := "ytfjdijphpcddnaadoor", sum := "9738ef5433dd4fe8e8ef0fd14f585e0bb03e540bce82458a984dd59d79d92e5d", func := "milestone/milestonelaw01.PrefixCommon", spec := "prefixCommon", named := ["internal/strconv.uint64pow10", "math/bits.deBruijn32tab", "math/bits.deBruijn64tab"], apart := false, laid := [("math/bits.deBruijn32tab", laid_math_bits_deBruijn32tab), ("math/bits.deBruijn64tab", laid_math_bits_deBruijn64tab), ("internal/strconv.uint64pow10", laid_internal_strconv_uint64pow10)], narrowed := true }
def PrefixCommonUptoSaid : Prop := prefixCommonUptoRow.holds Tryd.pinned (OpenSpec.upto prefixCommonSpec)

/-- 'milestonelaw01.PrefixNests', WHERE WHAT IT READS IS OF BULK AT MOST 1048576: true; the input reads as it did. -/
def prefixNestsUptoRow : OpenClaim := { program := "ytfjdijphpcddnaadoor", sum := "9738ef5433dd4fe8e8ef0fd14f585e0bb03e540bce82458a984dd59d79d92e5d", func := "milestone/milestonelaw01.PrefixNests", spec := "prefixNests", named := ["internal/strconv.uint64pow10", "math/bits.deBruijn32tab", "math/bits.deBruijn64tab"], apart := false, laid := [("math/bits.deBruijn32tab", laid_math_bits_deBruijn32tab), ("math/bits.deBruijn64tab", laid_math_bits_deBruijn64tab), ("internal/strconv.uint64pow10", laid_internal_strconv_uint64pow10)], narrowed := true }
def PrefixNestsUptoSaid : Prop := prefixNestsUptoRow.holds Tryd.pinned (OpenSpec.upto prefixNestsSpec)

/-- 'milestonelaw01.PrefixTexts', WHERE WHAT IT READS IS OF BULK AT MOST 1048576: true; the input reads as it did. -/
def prefixTextsUptoRow : OpenClaim := { program := "ytfjdijphpcddnaadoor", sum := "9738ef5433dd4fe8e8ef0fd14f585e0bb03e540bce82458a984dd59d79d92e5d", func := "milestone/milestonelaw01.PrefixTexts", spec := "prefixTexts", recurses := true, named := ["internal/strconv.uint64pow10", "math/bits.deBruijn32tab", "math/bits.deBruijn64tab"], apart := false, laid := [("math/bits.deBruijn32tab", laid_math_bits_deBruijn32tab), ("math/bits.deBruijn64tab", laid_math_bits_deBruijn64tab), ("internal/strconv.uint64pow10", laid_internal_strconv_uint64pow10)], narrowed := true }
def PrefixTextsUptoSaid : Prop := prefixTextsUptoRow.holds Tryd.pinned (OpenSpec.upto prefixTextsSpec)

/-- 'milestonelaw01.PrefixParses', WHERE WHAT IT READS IS OF BULK AT MOST 1048576: true; the input reads as it did. -/
def prefixParsesUptoRow : OpenClaim := { program := "ytfjdijphpcddnaadoor", sum := "9738ef5433dd4fe8e8ef0fd14f585e0bb03e540bce82458a984dd59d79d92e5d", func := "milestone/milestonelaw01.PrefixParses", spec := "prefixParses", recurses := true, named := ["internal/strconv.uint64pow10", "math/bits.deBruijn32tab", "math/bits.deBruijn64tab"], apart := false, laid := [("math/bits.deBruijn32tab", laid_math_bits_deBruijn32tab), ("math/bits.deBruijn64tab", laid_math_bits_deBruijn64tab), ("internal/strconv.uint64pow10", laid_internal_strconv_uint64pow10)], narrowed := true }
def PrefixParsesUptoSaid : Prop := prefixParsesUptoRow.holds Tryd.pinned (OpenSpec.upto prefixParsesSpec)

/-- 'milestonelaw01.PrefixOrders', WHERE WHAT IT READS IS OF BULK AT MOST 1048576: true; the input reads as it did. -/
def prefixOrdersUptoRow : OpenClaim := { program := "ytfjdijphpcddnaadoor", sum := "9738ef5433dd4fe8e8ef0fd14f585e0bb03e540bce82458a984dd59d79d92e5d", func := "milestone/milestonelaw01.PrefixOrders", spec := "prefixOrders", named := ["internal/strconv.uint64pow10", "math/bits.deBruijn32tab", "math/bits.deBruijn64tab"], apart := false, laid := [("math/bits.deBruijn32tab", laid_math_bits_deBruijn32tab), ("math/bits.deBruijn64tab", laid_math_bits_deBruijn64tab), ("internal/strconv.uint64pow10", laid_internal_strconv_uint64pow10)], narrowed := true }
def PrefixOrdersUptoSaid : Prop := prefixOrdersUptoRow.holds Tryd.pinned (OpenSpec.upto prefixOrdersSpec)

end Rows
end Go.Proofs.YtfjdijphpcddnaaDoor
