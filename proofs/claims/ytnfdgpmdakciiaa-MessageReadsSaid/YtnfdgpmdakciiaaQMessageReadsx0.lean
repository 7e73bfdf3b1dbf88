-- Lines by a program of this session, for this claim.
import Derived.Test.YtnfdgpmdakciiaaProg
import Derived.Below
import Derived.Deep.Draws
import Derived.Deep.AppendLies
import Derived.Maps.AppendAt
import Derived.OwnWalk
import Derived.Laws.BytesArg
import Derived.Laws.MakeOwn
import Derived.Laws.OwnMore
import Derived.Deep.OwnRows
import Derived.Tactics
import Derived.Lib.ConvBytes
import Derived.Laws.Slices
import Derived.WalkKit
import Derived.KernelRfl
import Derived.RowKit3
import Derived.Deep.LoopGhost
import Derived.Deep.QuietTactic
import Derived.BigQuiet
import Derived.WideLaws
import Derived.Deep.DeepCutAuto
import Derived.Deep.CutBlock
import Derived.Deep.RegionHeld3
import Derived.Laws.Rows
import Derived.Lib.AppendStr
import Derived.ArgAppend
import Derived.Laws.IdiomCopy
import Derived.OrdersHeld
import Derived.Laws.BitsLemmas
import Derived.RowKit
import Derived.Lib.SlBytesConst
import Derived.BigRegion
import Derived.Laws.BitsAllLaws
import Derived.OpenShut
import Derived.RegionTactic
import Derived.ChangeAlike
import Derived.Test.YtnfdgpmdakciiaaVMessageReadsWords
import Derived.Test.YtnfdgpmdakciiaaVMessageReadsLast
import Derived.Test.YtnfdgpmdakciiaaVMessageReadsTab
import Derived.Test.YtnfdgpmdakciiaaVMessageReadsFour
import Derived.Test.YtnfdgpmdakciiaaVMessageReadsQPut
import Derived.Test.YtnfdgpmdakciiaaVMessageReadsApart
import Derived.Test.YtnfdgpmdakciiaaVMessageReadsArr
import Derived.Test.YtnfdgpmdakciiaaVMessageReadsZeros
import Derived.Test.YtnfdgpmdakciiaaVMessageReadsFoot
import Derived.Test.YtnfdgpmdakciiaaVMessageReadsKept
import Derived.Test.YtnfdgpmdakciiaaVMessageReadsShare
import Derived.Test.YtnfdgpmdakciiaaVMessageReadsN
import Derived.Test.YtnfdgpmdakciiaaVMessageReadsFootNe
import Derived.Test.YtnfdgpmdakciiaaVMessageReadsAt
import Derived.Test.YtnfdgpmdakciiaaVMessageReadsEqStruct
import Derived.Test.YtnfdgpmdakciiaaVMessageReadsRepsOne
import Derived.Test.YtnfdgpmdakciiaaVMessageReadsInv
import Derived.Test.YtnfdgpmdakciiaaVMessageReadsInvWords
import Derived.Test.YtnfdgpmdakciiaaVMessageReadsGuard
import Derived.Test.YtnfdgpmdakciiaaVMessageReadsNEv
import Derived.Test.YtnfdgpmdakciiaaVMessageReadsMore
namespace Go.Proofs.Ytnfdgpmdakciiaa.QMessageReads
open Go.RowKit Go.Proofs.YtnfdgpmdakciiaaW.PrintWords Go.Proofs.YtnfdgpmdakciiaaW.PrintLast Go.Proofs.YtnfdgpmdakciiaaW.PrintMore
attribute [local go_sem] max2_int min2_int max_two min_two max_three min_three max_four min_four   -- for this text's walks alone
set_option linter.unusedVariables false
set_option linter.unusedSimpArgs false



def errW : Option Int → Value
  | none => .nilIface
  | some c => .iface 0 (.int .i64 c)
theorem errW_none : errW none = .nilIface := rfl
theorem errW_some (c : Int) : errW (some c) = .iface 0 (.int .i64 c) := rfl

theorem qa_arr {l l' : List Value} (h : l = l') : l.toArray = l'.toArray := by rw [h]
theorem qa_cons {a b : Value} {l l' : List Value} (h : a = b) (h' : l = l') : a :: l = b :: l' := by rw [h, h']
theorem qa_int {k : IntKind} {a b : Int} (h : a = b) : Value.int k a = Value.int k b := by rw [h]
theorem qa_agg {l l' : Array Value} (h : l = l') : Value.agg l = Value.agg l' := by rw [h]

theorem info5 : (Try.prog.info? 5).map (fun i => (i.zero, i.size, i.bytes)) = some (some (.int .u8 0), 1, 1) := by kernel_rfl
theorem info22 : (Try.prog.info? 22).map (fun i => (i.zero, i.size, i.bytes)) = some (some (.int .u64 0), 1, 8) := by kernel_rfl
theorem info28 : (Try.prog.info? 28).map (fun i => (i.zero, i.size, i.bytes)) = some (some (.agg #[(.int .u8 0), (.int .u64 0), (.int .i64 0), (.int .u32 0), (.int .u8 0), (.int .u16 0), (.int .u16 0)]), 7, 40) := by kernel_rfl
-- the values' own types
/-! #### struct type 25 -/
structure S25 where
  f0 : Int
  f1 : Int
def z25 : S25 := ⟨(0 : Int), (0 : Int)⟩
def k25 : Kd S25 := Kd.iso (Kd.pair (Kd.int .u32) (Kd.int .u8)) (fun x : S25 => (x.f0, x.f1))
theorem k25_open {w : World} {x : S25} {cs : List Value} (h : k25.K w x cs) : cs = [.int .u32 x.f0, .int .u8 x.f1] := by
  obtain ⟨_, _, rfl, rfl, rfl⟩ := h
  exact rfl
theorem k25_openM {w : World} {base : Nat} {ok : Nat → Prop} {x : S25} {cs : List Value} (h : k25.M w base ok x cs) : cs = [.int .u32 x.f0, .int .u8 x.f1] := by
  obtain ⟨_, _, rfl, rfl, rfl⟩ := h
  exact rfl
theorem k25_mk (w : World) (x : S25)  : k25.K w x [.int .u32 x.f0, .int .u8 x.f1] := ⟨[.int .u32 x.f0], [.int .u8 x.f1], rfl, rfl, rfl⟩
theorem k25_mkM (w : World) (base : Nat) (ok : Nat → Prop) (x : S25)  : k25.M w base ok x [.int .u32 x.f0, .int .u8 x.f1] := ⟨[.int .u32 x.f0], [.int .u8 x.f1], rfl, rfl, rfl⟩
def rd_T25 (xs : List S25) (i : Int) : S25 := xs.getD i.toNat z25
theorem at_T25 {w : World} {A : Option Addr} {n : Nat} {xs : List S25} (h : Kd.C k25 w A n xs) (i : Int) (h0 : 0 ≤ i) (h1 : i < n) : ∃ ad , A = some ad ∧ w.cell? (ad.add (i.toNat * 2)) = some (.int .u32 (rd_T25 xs i).f0) ∧ w.cell? ⟨(ad.add (i.toNat * 2)).block, (ad.add (i.toNat * 2)).off + 1, none⟩ = some (.int .u8 (rd_T25 xs i).f1) := by
  obtain ⟨ad, c, e, _, hK, hc0⟩ := Kd.C_get h z25 i h0 h1
  have hc : ∀ j u, c[j]? = some u → w.cell? (ad.add (i.toNat * 2 + j)) = some u := hc0
  obtain rfl := k25_open hK
  exact ⟨ad, e, hc 0 _ rfl, by rw [← add_field _ _ 1 (by omega)]; exact hc 1 _ rfl⟩

/-! #### struct type 28 -/
structure S28 where
  f0 : Int
  f1 : Int
  f2 : Int
  f3 : S25
  f4 : Int
  f5 : Int
def z28 : S28 := ⟨(0 : Int), (0 : Int), (0 : Int), z25, (0 : Int), (0 : Int)⟩
def k28 : Kd S28 := Kd.iso (Kd.pair (Kd.int .u8) (Kd.pair (Kd.int .u64) (Kd.pair (Kd.int .i64) (Kd.pair k25 (Kd.pair (Kd.int .u16) (Kd.int .u16)))))) (fun x : S28 => (x.f0, x.f1, x.f2, x.f3, x.f4, x.f5))
theorem k28_open {w : World} {x : S28} {cs : List Value} (h : k28.K w x cs) : cs = [.int .u8 x.f0, .int .u64 x.f1, .int .i64 x.f2, .int .u32 x.f3.f0, .int .u8 x.f3.f1, .int .u16 x.f4, .int .u16 x.f5] := by
  obtain ⟨_, _, rfl, rfl, ⟨_, _, rfl, rfl, ⟨_, _, rfl, rfl, ⟨_, _, rfl, s3, ⟨_, _, rfl, rfl, rfl⟩⟩⟩⟩⟩ := h
  obtain rfl := k25_open s3
  exact rfl
theorem k28_openM {w : World} {base : Nat} {ok : Nat → Prop} {x : S28} {cs : List Value} (h : k28.M w base ok x cs) : cs = [.int .u8 x.f0, .int .u64 x.f1, .int .i64 x.f2, .int .u32 x.f3.f0, .int .u8 x.f3.f1, .int .u16 x.f4, .int .u16 x.f5] := by
  obtain ⟨_, _, rfl, rfl, ⟨_, _, rfl, rfl, ⟨_, _, rfl, rfl, ⟨_, _, rfl, s3, ⟨_, _, rfl, rfl, rfl⟩⟩⟩⟩⟩ := h
  obtain rfl := k25_openM s3
  exact rfl
theorem k28_mk (w : World) (x : S28)  : k28.K w x [.int .u8 x.f0, .int .u64 x.f1, .int .i64 x.f2, .int .u32 x.f3.f0, .int .u8 x.f3.f1, .int .u16 x.f4, .int .u16 x.f5] := ⟨[.int .u8 x.f0], [.int .u64 x.f1, .int .i64 x.f2, .int .u32 x.f3.f0, .int .u8 x.f3.f1, .int .u16 x.f4, .int .u16 x.f5], rfl, rfl, ⟨[.int .u64 x.f1], [.int .i64 x.f2, .int .u32 x.f3.f0, .int .u8 x.f3.f1, .int .u16 x.f4, .int .u16 x.f5], rfl, rfl, ⟨[.int .i64 x.f2], [.int .u32 x.f3.f0, .int .u8 x.f3.f1, .int .u16 x.f4, .int .u16 x.f5], rfl, rfl, ⟨[.int .u32 x.f3.f0, .int .u8 x.f3.f1], [.int .u16 x.f4, .int .u16 x.f5], rfl, (k25_mk w x.f3 ), ⟨[.int .u16 x.f4], [.int .u16 x.f5], rfl, rfl, rfl⟩⟩⟩⟩⟩
theorem k28_mkM (w : World) (base : Nat) (ok : Nat → Prop) (x : S28)  : k28.M w base ok x [.int .u8 x.f0, .int .u64 x.f1, .int .i64 x.f2, .int .u32 x.f3.f0, .int .u8 x.f3.f1, .int .u16 x.f4, .int .u16 x.f5] := ⟨[.int .u8 x.f0], [.int .u64 x.f1, .int .i64 x.f2, .int .u32 x.f3.f0, .int .u8 x.f3.f1, .int .u16 x.f4, .int .u16 x.f5], rfl, rfl, ⟨[.int .u64 x.f1], [.int .i64 x.f2, .int .u32 x.f3.f0, .int .u8 x.f3.f1, .int .u16 x.f4, .int .u16 x.f5], rfl, rfl, ⟨[.int .i64 x.f2], [.int .u32 x.f3.f0, .int .u8 x.f3.f1, .int .u16 x.f4, .int .u16 x.f5], rfl, rfl, ⟨[.int .u32 x.f3.f0, .int .u8 x.f3.f1], [.int .u16 x.f4, .int .u16 x.f5], rfl, (k25_mkM w base ok x.f3 ), ⟨[.int .u16 x.f4], [.int .u16 x.f5], rfl, rfl, rfl⟩⟩⟩⟩⟩
def rd_T28 (xs : List S28) (i : Int) : S28 := xs.getD i.toNat z28
theorem at_T28 {w : World} {A : Option Addr} {n : Nat} {xs : List S28} (h : Kd.C k28 w A n xs) (i : Int) (h0 : 0 ≤ i) (h1 : i < n) : ∃ ad , A = some ad ∧ w.cell? (ad.add (i.toNat * 7)) = some (.int .u8 (rd_T28 xs i).f0) ∧ w.cell? ⟨(ad.add (i.toNat * 7)).block, (ad.add (i.toNat * 7)).off + 1, none⟩ = some (.int .u64 (rd_T28 xs i).f1) ∧ w.cell? ⟨(ad.add (i.toNat * 7)).block, (ad.add (i.toNat * 7)).off + 2, none⟩ = some (.int .i64 (rd_T28 xs i).f2) ∧ w.cell? ⟨(ad.add (i.toNat * 7)).block, (ad.add (i.toNat * 7)).off + 3, none⟩ = some (.int .u32 (rd_T28 xs i).f3.f0) ∧ w.cell? ⟨(ad.add (i.toNat * 7)).block, (ad.add (i.toNat * 7)).off + 4, none⟩ = some (.int .u8 (rd_T28 xs i).f3.f1) ∧ w.cell? ⟨(ad.add (i.toNat * 7)).block, (ad.add (i.toNat * 7)).off + 5, none⟩ = some (.int .u16 (rd_T28 xs i).f4) ∧ w.cell? ⟨(ad.add (i.toNat * 7)).block, (ad.add (i.toNat * 7)).off + 6, none⟩ = some (.int .u16 (rd_T28 xs i).f5) := by
  obtain ⟨ad, c, e, _, hK, hc0⟩ := Kd.C_get h z28 i h0 h1
  have hc : ∀ j u, c[j]? = some u → w.cell? (ad.add (i.toNat * 7 + j)) = some u := hc0
  obtain rfl := k28_open hK
  exact ⟨ad, e, hc 0 _ rfl, by rw [← add_field _ _ 1 (by omega)]; exact hc 1 _ rfl, by rw [← add_field _ _ 2 (by omega)]; exact hc 2 _ rfl, by rw [← add_field _ _ 3 (by omega)]; exact hc 3 _ rfl, by rw [← add_field _ _ 4 (by omega)]; exact hc 4 _ rfl, by rw [← add_field _ _ 5 (by omega)]; exact hc 5 _ rfl, by rw [← add_field _ _ 6 (by omega)]; exact hc 6 _ rfl⟩

end Go.Proofs.Ytnfdgpmdakciiaa.QMessageReads
