/- Plain Lean functions and their contracts over the translation, written by a program of this session (myprint.py, over the kit's print); no condition but each contract's own. -/
import Derived.Test.YtomgiaakhpemaaaProg
import Derived.Test.YtomgiaakhpemaaaShort
import Derived.Below
import Derived.Deep.Draws
import Derived.Deep.AppendLies
import Derived.Maps.AppendAt
import Derived.OwnWalk
import Derived.Laws.BytesArg
import Derived.Laws.MakeOwn
import Derived.Laws.OwnMore
import Derived.Deep.OwnRows
import Derived.Tactics
import Derived.Lib.ConvBytes
import Derived.Laws.Slices
import Derived.WalkKit
import Derived.KernelRfl
import Derived.RowKit3
import Derived.Deep.LoopGhost
import Derived.Deep.QuietTactic
import Derived.BigQuiet
import Derived.WideLaws
import Derived.Deep.DeepCutAuto
import Derived.Deep.CutBlock
import Derived.Deep.RegionHeld3
import Derived.Laws.Rows
import Derived.Lib.AppendStr
import Derived.ArgAppend
import Derived.Laws.IdiomCopy
import Derived.OrdersHeld
import Derived.Laws.BitsLemmas
import Derived.RowKit
import Derived.Deep.WholeRow
import Derived.Lib.SliceRun
import Derived.RangeFuncNested
import Derived.RangeFuncBound
import Derived.RangeFuncCalls
import Derived.RangeFuncLeaves
import Derived.Shelf.Abstract
import Derived.OwnWalkIn
import Derived.TacticsInMore
import Derived.LoopNIn
import Derived.LoopIn
import Derived.Test.YtomgiaakhpemaaaWWords
import Derived.Test.YtomgiaakhpemaaaWLast
import Derived.Test.YtomgiaakhpemaaaWTab
import Derived.Test.YtomgiaakhpemaaaWFour
import Derived.Test.YtomgiaakhpemaaaWQPut
import Derived.Test.YtomgiaakhpemaaaWApart
import Derived.Test.YtomgiaakhpemaaaWArr
import Derived.Test.YtomgiaakhpemaaaWZeros
import Derived.Test.YtomgiaakhpemaaaWFoot
import Derived.Test.YtomgiaakhpemaaaWKept
import Derived.Test.YtomgiaakhpemaaaWShare
import Derived.Test.YtomgiaakhpemaaaWN
import Derived.Test.YtomgiaakhpemaaaWFootNe
import Derived.Test.YtomgiaakhpemaaaWAt
import Derived.Test.YtomgiaakhpemaaaWEqStruct
import Derived.Test.YtomgiaakhpemaaaWRepsOne
import Derived.Test.YtomgiaakhpemaaaWInv
import Derived.Test.YtomgiaakhpemaaaWInvWords
import Derived.Test.YtomgiaakhpemaaaWGuard
import Derived.Test.YtomgiaakhpemaaaWNEv
import Derived.Test.YtomgiaakhpemaaaWMore
namespace Go.Proofs.Ytomgiaakhpemaaa.P
open Go.RowKit Go.Proofs.YtomgiaakhpemaaaW.PrintWords Go.Proofs.YtomgiaakhpemaaaW.PrintLast Go.Proofs.YtomgiaakhpemaaaW.PrintMore
attribute [local go_sem] max2_int min2_int max_two min_two max_three min_three max_four min_four   -- for this text's walks alone
set_option linter.unusedVariables false
set_option linter.unusedSimpArgs false



def errW : Option Int → Value
  | none => .nilIface
  | some c => .iface 0 (.int .i64 c)
theorem errW_none : errW none = .nilIface := rfl
theorem errW_some (c : Int) : errW (some c) = .iface 0 (.int .i64 c) := rfl

theorem info3 : (Try.prog.info? 3).map (fun i => (i.zero, i.size, i.bytes)) = some (some (.int .i64 0), 1, 8) := by kernel_rfl
theorem info35 : (Try.prog.info? 35).map (fun i => (i.zero, i.size, i.bytes)) = some (some (.agg #[(.int .i64 0), (.int .i64 0), (.int .i64 0), (.int .i64 0), (.int .i64 0), (.int .i64 0), (.int .i64 0), (.int .i64 0), (.int .i64 0), (.int .i64 0), (.int .i64 0), (.string ⟨#[]⟩), (.int .i64 0), (.slice none 0 0)]), 14, 136) := by kernel_rfl
-- the values' own types
structure S31 where
  f0 : Int
  f1 : (List Int)
def z31 : S31 := ⟨(0 : Int), ([] : List Int)⟩
def k31 : Kd S31 := Kd.iso (Kd.pair (Kd.int .i64) (Kd.slice 3 (Kd.int .i64))) (fun x : S31 => (x.f0, x.f1))
theorem k31_heap : Kd.Heap k31 := Kd.heap_iso _ (Kd.heap_pair (Kd.heap_int .i64) (Kd.heap_slice 3 (Kd.heap_int .i64)))
theorem k31_open {w : World} {x : S31} {cs : List Value} (h : k31.K w x cs) : ∃ A1 c1, cs = [.int .i64 x.f0, .slice A1 x.f1.length c1] ∧ x.f1.length ≤ c1 ∧ (Kd.int .i64).C w A1 x.f1.length x.f1 := by
  obtain ⟨_, _, rfl, rfl, ⟨A1, c1, rfl, l1, g1⟩⟩ := h
  exact ⟨A1, c1, rfl, l1, g1⟩
theorem k31_mk (w : World) (x : S31) {A1 : Option Addr} {c1 : Nat} (l1 : x.f1.length ≤ c1) (g1 : (Kd.int .i64).C w A1 x.f1.length x.f1) : k31.K w x [.int .i64 x.f0, .slice A1 x.f1.length c1] := ⟨[.int .i64 x.f0], [.slice A1 x.f1.length c1], rfl, rfl, ⟨A1, c1, rfl, l1, g1⟩⟩
theorem k31_mkM (w : World) (base : Nat) (ok : Nat → Prop) (x : S31) {v1 : Value} (g1 : (Kd.int .i64).R 3 w base ok v1 x.f1) : k31.M w base ok x [.int .i64 x.f0, v1] := ⟨[.int .i64 x.f0], [v1], rfl, rfl, ⟨v1, rfl, g1⟩⟩
structure S26 where
  f0 : Int
  f1 : Int
def z26 : S26 := ⟨(0 : Int), (0 : Int)⟩
def k26 : Kd S26 := Kd.iso (Kd.pair (Kd.int .i64) (Kd.int .i64)) (fun x : S26 => (x.f0, x.f1))
theorem k26_heap : Kd.Heap k26 := Kd.heap_iso _ (Kd.heap_pair (Kd.heap_int .i64) (Kd.heap_int .i64))
theorem k26_open {w : World} {x : S26} {cs : List Value} (h : k26.K w x cs) : cs = [.int .i64 x.f0, .int .i64 x.f1] := by
  obtain ⟨_, _, rfl, rfl, rfl⟩ := h
  exact rfl
theorem k26_mk (w : World) (x : S26)  : k26.K w x [.int .i64 x.f0, .int .i64 x.f1] := ⟨[.int .i64 x.f0], [.int .i64 x.f1], rfl, rfl, rfl⟩
theorem k26_mkM (w : World) (base : Nat) (ok : Nat → Prop) (x : S26)  : k26.M w base ok x [.int .i64 x.f0, .int .i64 x.f1] := ⟨[.int .i64 x.f0], [.int .i64 x.f1], rfl, rfl, rfl⟩
structure S28 where
  f0 : Int
  f1 : Int
  f2 : Int
  f3 : Int
  f4 : Int
  f5 : ByteArray
def z28 : S28 := ⟨(0 : Int), (0 : Int), (0 : Int), (0 : Int), (0 : Int), (⟨#[]⟩ : ByteArray)⟩
def k28 : Kd S28 := Kd.iso (Kd.pair (Kd.int .i64) (Kd.pair (Kd.int .i64) (Kd.pair (Kd.int .i64) (Kd.pair (Kd.int .i64) (Kd.pair (Kd.int .i64) Kd.string))))) (fun x : S28 => (x.f0, x.f1, x.f2, x.f3, x.f4, x.f5))
theorem k28_heap : Kd.Heap k28 := Kd.heap_iso _ (Kd.heap_pair (Kd.heap_int .i64) (Kd.heap_pair (Kd.heap_int .i64) (Kd.heap_pair (Kd.heap_int .i64) (Kd.heap_pair (Kd.heap_int .i64) (Kd.heap_pair (Kd.heap_int .i64) Kd.heap_string)))))
theorem k28_open {w : World} {x : S28} {cs : List Value} (h : k28.K w x cs) : cs = [.int .i64 x.f0, .int .i64 x.f1, .int .i64 x.f2, .int .i64 x.f3, .int .i64 x.f4, .string x.f5] := by
  obtain ⟨_, _, rfl, rfl, ⟨_, _, rfl, rfl, ⟨_, _, rfl, rfl, ⟨_, _, rfl, rfl, ⟨_, _, rfl, rfl, rfl⟩⟩⟩⟩⟩ := h
  exact rfl
theorem k28_mk (w : World) (x : S28)  : k28.K w x [.int .i64 x.f0, .int .i64 x.f1, .int .i64 x.f2, .int .i64 x.f3, .int .i64 x.f4, .string x.f5] := ⟨[.int .i64 x.f0], [.int .i64 x.f1, .int .i64 x.f2, .int .i64 x.f3, .int .i64 x.f4, .string x.f5], rfl, rfl, ⟨[.int .i64 x.f1], [.int .i64 x.f2, .int .i64 x.f3, .int .i64 x.f4, .string x.f5], rfl, rfl, ⟨[.int .i64 x.f2], [.int .i64 x.f3, .int .i64 x.f4, .string x.f5], rfl, rfl, ⟨[.int .i64 x.f3], [.int .i64 x.f4, .string x.f5], rfl, rfl, ⟨[.int .i64 x.f4], [.string x.f5], rfl, rfl, rfl⟩⟩⟩⟩⟩
theorem k28_mkM (w : World) (base : Nat) (ok : Nat → Prop) (x : S28)  : k28.M w base ok x [.int .i64 x.f0, .int .i64 x.f1, .int .i64 x.f2, .int .i64 x.f3, .int .i64 x.f4, .string x.f5] := ⟨[.int .i64 x.f0], [.int .i64 x.f1, .int .i64 x.f2, .int .i64 x.f3, .int .i64 x.f4, .string x.f5], rfl, rfl, ⟨[.int .i64 x.f1], [.int .i64 x.f2, .int .i64 x.f3, .int .i64 x.f4, .string x.f5], rfl, rfl, ⟨[.int .i64 x.f2], [.int .i64 x.f3, .int .i64 x.f4, .string x.f5], rfl, rfl, ⟨[.int .i64 x.f3], [.int .i64 x.f4, .string x.f5], rfl, rfl, ⟨[.int .i64 x.f4], [.string x.f5], rfl, rfl, rfl⟩⟩⟩⟩⟩
structure S33 where
  f0 : Int
  f1 : S26
  f2 : S26
  f3 : S28
  f4 : S31
def z33 : S33 := ⟨(0 : Int), z26, z26, z28, z31⟩
def k33 : Kd S33 := Kd.iso (Kd.pair (Kd.int .i64) (Kd.pair k26 (Kd.pair k26 (Kd.pair k28 k31)))) (fun x : S33 => (x.f0, x.f1, x.f2, x.f3, x.f4))
theorem k33_heap : Kd.Heap k33 := Kd.heap_iso _ (Kd.heap_pair (Kd.heap_int .i64) (Kd.heap_pair k26_heap (Kd.heap_pair k26_heap (Kd.heap_pair k28_heap k31_heap))))
theorem k33_open {w : World} {x : S33} {cs : List Value} (h : k33.K w x cs) : ∃ A12 c12, cs = [.int .i64 x.f0, .int .i64 x.f1.f0, .int .i64 x.f1.f1, .int .i64 x.f2.f0, .int .i64 x.f2.f1, .int .i64 x.f3.f0, .int .i64 x.f3.f1, .int .i64 x.f3.f2, .int .i64 x.f3.f3, .int .i64 x.f3.f4, .string x.f3.f5, .int .i64 x.f4.f0, .slice A12 x.f4.f1.length c12] ∧ x.f4.f1.length ≤ c12 ∧ (Kd.int .i64).C w A12 x.f4.f1.length x.f4.f1 := by
  obtain ⟨_, _, rfl, rfl, ⟨_, _, rfl, s1, ⟨_, _, rfl, s3, ⟨_, _, rfl, s5, s11⟩⟩⟩⟩ := h
  obtain rfl := k26_open s1
  obtain rfl := k26_open s3
  obtain rfl := k28_open s5
  obtain ⟨A12, c12, rfl, l12, g12⟩ := k31_open s11
  exact ⟨A12, c12, rfl, l12, g12⟩
theorem k33_mk (w : World) (x : S33) {A12 : Option Addr} {c12 : Nat} (l12 : x.f4.f1.length ≤ c12) (g12 : (Kd.int .i64).C w A12 x.f4.f1.length x.f4.f1) : k33.K w x [.int .i64 x.f0, .int .i64 x.f1.f0, .int .i64 x.f1.f1, .int .i64 x.f2.f0, .int .i64 x.f2.f1, .int .i64 x.f3.f0, .int .i64 x.f3.f1, .int .i64 x.f3.f2, .int .i64 x.f3.f3, .int .i64 x.f3.f4, .string x.f3.f5, .int .i64 x.f4.f0, .slice A12 x.f4.f1.length c12] := ⟨[.int .i64 x.f0], [.int .i64 x.f1.f0, .int .i64 x.f1.f1, .int .i64 x.f2.f0, .int .i64 x.f2.f1, .int .i64 x.f3.f0, .int .i64 x.f3.f1, .int .i64 x.f3.f2, .int .i64 x.f3.f3, .int .i64 x.f3.f4, .string x.f3.f5, .int .i64 x.f4.f0, .slice A12 x.f4.f1.length c12], rfl, rfl, ⟨[.int .i64 x.f1.f0, .int .i64 x.f1.f1], [.int .i64 x.f2.f0, .int .i64 x.f2.f1, .int .i64 x.f3.f0, .int .i64 x.f3.f1, .int .i64 x.f3.f2, .int .i64 x.f3.f3, .int .i64 x.f3.f4, .string x.f3.f5, .int .i64 x.f4.f0, .slice A12 x.f4.f1.length c12], rfl, (k26_mk w x.f1 ), ⟨[.int .i64 x.f2.f0, .int .i64 x.f2.f1], [.int .i64 x.f3.f0, .int .i64 x.f3.f1, .int .i64 x.f3.f2, .int .i64 x.f3.f3, .int .i64 x.f3.f4, .string x.f3.f5, .int .i64 x.f4.f0, .slice A12 x.f4.f1.length c12], rfl, (k26_mk w x.f2 ), ⟨[.int .i64 x.f3.f0, .int .i64 x.f3.f1, .int .i64 x.f3.f2, .int .i64 x.f3.f3, .int .i64 x.f3.f4, .string x.f3.f5], [.int .i64 x.f4.f0, .slice A12 x.f4.f1.length c12], rfl, (k28_mk w x.f3 ), (k31_mk w x.f4 l12 g12)⟩⟩⟩⟩
theorem k33_mkM (w : World) (base : Nat) (ok : Nat → Prop) (x : S33) {v12 : Value} (g12 : (Kd.int .i64).R 3 w base ok v12 x.f4.f1) : k33.M w base ok x [.int .i64 x.f0, .int .i64 x.f1.f0, .int .i64 x.f1.f1, .int .i64 x.f2.f0, .int .i64 x.f2.f1, .int .i64 x.f3.f0, .int .i64 x.f3.f1, .int .i64 x.f3.f2, .int .i64 x.f3.f3, .int .i64 x.f3.f4, .string x.f3.f5, .int .i64 x.f4.f0, v12] := ⟨[.int .i64 x.f0], [.int .i64 x.f1.f0, .int .i64 x.f1.f1, .int .i64 x.f2.f0, .int .i64 x.f2.f1, .int .i64 x.f3.f0, .int .i64 x.f3.f1, .int .i64 x.f3.f2, .int .i64 x.f3.f3, .int .i64 x.f3.f4, .string x.f3.f5, .int .i64 x.f4.f0, v12], rfl, rfl, ⟨[.int .i64 x.f1.f0, .int .i64 x.f1.f1], [.int .i64 x.f2.f0, .int .i64 x.f2.f1, .int .i64 x.f3.f0, .int .i64 x.f3.f1, .int .i64 x.f3.f2, .int .i64 x.f3.f3, .int .i64 x.f3.f4, .string x.f3.f5, .int .i64 x.f4.f0, v12], rfl, (k26_mkM w base ok x.f1 ), ⟨[.int .i64 x.f2.f0, .int .i64 x.f2.f1], [.int .i64 x.f3.f0, .int .i64 x.f3.f1, .int .i64 x.f3.f2, .int .i64 x.f3.f3, .int .i64 x.f3.f4, .string x.f3.f5, .int .i64 x.f4.f0, v12], rfl, (k26_mkM w base ok x.f2 ), ⟨[.int .i64 x.f3.f0, .int .i64 x.f3.f1, .int .i64 x.f3.f2, .int .i64 x.f3.f3, .int .i64 x.f3.f4, .string x.f3.f5], [.int .i64 x.f4.f0, v12], rfl, (k28_mkM w base ok x.f3 ), (k31_mkM w base ok x.f4 g12)⟩⟩⟩⟩
structure S35 where
  f0 : Int
  f1 : S33
def z35 : S35 := ⟨(0 : Int), z33⟩
def k35 : Kd S35 := Kd.iso (Kd.pair (Kd.int .i64) k33) (fun x : S35 => (x.f0, x.f1))
theorem k35_heap : Kd.Heap k35 := Kd.heap_iso _ (Kd.heap_pair (Kd.heap_int .i64) k33_heap)
theorem k35_open {w : World} {x : S35} {cs : List Value} (h : k35.K w x cs) : ∃ A13 c13, cs = [.int .i64 x.f0, .int .i64 x.f1.f0, .int .i64 x.f1.f1.f0, .int .i64 x.f1.f1.f1, .int .i64 x.f1.f2.f0, .int .i64 x.f1.f2.f1, .int .i64 x.f1.f3.f0, .int .i64 x.f1.f3.f1, .int .i64 x.f1.f3.f2, .int .i64 x.f1.f3.f3, .int .i64 x.f1.f3.f4, .string x.f1.f3.f5, .int .i64 x.f1.f4.f0, .slice A13 x.f1.f4.f1.length c13] ∧ x.f1.f4.f1.length ≤ c13 ∧ (Kd.int .i64).C w A13 x.f1.f4.f1.length x.f1.f4.f1 := by
  obtain ⟨_, _, rfl, rfl, s1⟩ := h
  obtain ⟨A13, c13, rfl, l13, g13⟩ := k33_open s1
  exact ⟨A13, c13, rfl, l13, g13⟩
theorem k35_mk (w : World) (x : S35) {A13 : Option Addr} {c13 : Nat} (l13 : x.f1.f4.f1.length ≤ c13) (g13 : (Kd.int .i64).C w A13 x.f1.f4.f1.length x.f1.f4.f1) : k35.K w x [.int .i64 x.f0, .int .i64 x.f1.f0, .int .i64 x.f1.f1.f0, .int .i64 x.f1.f1.f1, .int .i64 x.f1.f2.f0, .int .i64 x.f1.f2.f1, .int .i64 x.f1.f3.f0, .int .i64 x.f1.f3.f1, .int .i64 x.f1.f3.f2, .int .i64 x.f1.f3.f3, .int .i64 x.f1.f3.f4, .string x.f1.f3.f5, .int .i64 x.f1.f4.f0, .slice A13 x.f1.f4.f1.length c13] := ⟨[.int .i64 x.f0], [.int .i64 x.f1.f0, .int .i64 x.f1.f1.f0, .int .i64 x.f1.f1.f1, .int .i64 x.f1.f2.f0, .int .i64 x.f1.f2.f1, .int .i64 x.f1.f3.f0, .int .i64 x.f1.f3.f1, .int .i64 x.f1.f3.f2, .int .i64 x.f1.f3.f3, .int .i64 x.f1.f3.f4, .string x.f1.f3.f5, .int .i64 x.f1.f4.f0, .slice A13 x.f1.f4.f1.length c13], rfl, rfl, (k33_mk w x.f1 l13 g13)⟩
theorem k35_mkM (w : World) (base : Nat) (ok : Nat → Prop) (x : S35) {v13 : Value} (g13 : (Kd.int .i64).R 3 w base ok v13 x.f1.f4.f1) : k35.M w base ok x [.int .i64 x.f0, .int .i64 x.f1.f0, .int .i64 x.f1.f1.f0, .int .i64 x.f1.f1.f1, .int .i64 x.f1.f2.f0, .int .i64 x.f1.f2.f1, .int .i64 x.f1.f3.f0, .int .i64 x.f1.f3.f1, .int .i64 x.f1.f3.f2, .int .i64 x.f1.f3.f3, .int .i64 x.f1.f3.f4, .string x.f1.f3.f5, .int .i64 x.f1.f4.f0, v13] := ⟨[.int .i64 x.f0], [.int .i64 x.f1.f0, .int .i64 x.f1.f1.f0, .int .i64 x.f1.f1.f1, .int .i64 x.f1.f2.f0, .int .i64 x.f1.f2.f1, .int .i64 x.f1.f3.f0, .int .i64 x.f1.f3.f1, .int .i64 x.f1.f3.f2, .int .i64 x.f1.f3.f3, .int .i64 x.f1.f3.f4, .string x.f1.f3.f5, .int .i64 x.f1.f4.f0, v13], rfl, rfl, (k33_mkM w base ok x.f1 g13)⟩
theorem k35_openF {W : World} {ok : Nat → Prop} {x : S35} {cs : List Value} (h : Kd.FK k35 W ok x cs) : ∃ A13 c13, cs = [.int .i64 x.f0, .int .i64 x.f1.f0, .int .i64 x.f1.f1.f0, .int .i64 x.f1.f1.f1, .int .i64 x.f1.f2.f0, .int .i64 x.f1.f2.f1, .int .i64 x.f1.f3.f0, .int .i64 x.f1.f3.f1, .int .i64 x.f1.f3.f2, .int .i64 x.f1.f3.f3, .int .i64 x.f1.f3.f4, .string x.f1.f3.f5, .int .i64 x.f1.f4.f0, .slice A13 x.f1.f4.f1.length c13] ∧ x.f1.f4.f1.length ≤ c13 ∧ Kd.F (Kd.int .i64) W ok A13 x.f1.f4.f1.length x.f1.f4.f1 := by
  obtain ⟨A13, c13, rfl, l13, _⟩ := k35_open (Kd.FK_now h)
  exact ⟨A13, c13, rfl, l13, (fun W' hW => by obtain ⟨A13_, c13_, he, l13_, g13_⟩ := k35_open (h W' hW); injection (Option.some.inj (show some (Value.slice A13 x.f1.f4.f1.length c13) = some (Value.slice A13_ x.f1.f4.f1.length c13_) from congrArg (fun l => l[13]?) he)) with ha_ _ _; rw [ha_]; exact g13_)⟩
theorem k35_mkF (W : World) (ok : Nat → Prop) (x : S35) {A13 : Option Addr} {c13 : Nat} (l13 : x.f1.f4.f1.length ≤ c13) (g13 : Kd.F (Kd.int .i64) W ok A13 x.f1.f4.f1.length x.f1.f4.f1) : Kd.FK k35 W ok x [.int .i64 x.f0, .int .i64 x.f1.f0, .int .i64 x.f1.f1.f0, .int .i64 x.f1.f1.f1, .int .i64 x.f1.f2.f0, .int .i64 x.f1.f2.f1, .int .i64 x.f1.f3.f0, .int .i64 x.f1.f3.f1, .int .i64 x.f1.f3.f2, .int .i64 x.f1.f3.f3, .int .i64 x.f1.f3.f4, .string x.f1.f3.f5, .int .i64 x.f1.f4.f0, .slice A13 x.f1.f4.f1.length c13] := fun W2 hW => k35_mk W2 x l13 (g13 W2 hW)
def rd_T35 (xs : List S35) (i : Int) : S35 := xs.getD i.toNat z35
theorem at_T35 {w : World} {A : Option Addr} {n : Nat} {xs : List S35} (h : Kd.C k35 w A n xs) (i : Int) (h0 : 0 ≤ i) (h1 : i < n) : ∃ ad A13 c13, A = some ad ∧ w.cell? (ad.add (i.toNat * 14)) = some (.int .i64 (rd_T35 xs i).f0) ∧ w.cell? ⟨(ad.add (i.toNat * 14)).block, (ad.add (i.toNat * 14)).off + 1, none⟩ = some (.int .i64 (rd_T35 xs i).f1.f0) ∧ w.cell? ⟨(ad.add (i.toNat * 14)).block, (ad.add (i.toNat * 14)).off + 2, none⟩ = some (.int .i64 (rd_T35 xs i).f1.f1.f0) ∧ w.cell? ⟨(ad.add (i.toNat * 14)).block, (ad.add (i.toNat * 14)).off + 3, none⟩ = some (.int .i64 (rd_T35 xs i).f1.f1.f1) ∧ w.cell? ⟨(ad.add (i.toNat * 14)).block, (ad.add (i.toNat * 14)).off + 4, none⟩ = some (.int .i64 (rd_T35 xs i).f1.f2.f0) ∧ w.cell? ⟨(ad.add (i.toNat * 14)).block, (ad.add (i.toNat * 14)).off + 5, none⟩ = some (.int .i64 (rd_T35 xs i).f1.f2.f1) ∧ w.cell? ⟨(ad.add (i.toNat * 14)).block, (ad.add (i.toNat * 14)).off + 6, none⟩ = some (.int .i64 (rd_T35 xs i).f1.f3.f0) ∧ w.cell? ⟨(ad.add (i.toNat * 14)).block, (ad.add (i.toNat * 14)).off + 7, none⟩ = some (.int .i64 (rd_T35 xs i).f1.f3.f1) ∧ w.cell? ⟨(ad.add (i.toNat * 14)).block, (ad.add (i.toNat * 14)).off + 8, none⟩ = some (.int .i64 (rd_T35 xs i).f1.f3.f2) ∧ w.cell? ⟨(ad.add (i.toNat * 14)).block, (ad.add (i.toNat * 14)).off + 9, none⟩ = some (.int .i64 (rd_T35 xs i).f1.f3.f3) ∧ w.cell? ⟨(ad.add (i.toNat * 14)).block, (ad.add (i.toNat * 14)).off + 10, none⟩ = some (.int .i64 (rd_T35 xs i).f1.f3.f4) ∧ w.cell? ⟨(ad.add (i.toNat * 14)).block, (ad.add (i.toNat * 14)).off + 11, none⟩ = some (.string (rd_T35 xs i).f1.f3.f5) ∧ w.cell? ⟨(ad.add (i.toNat * 14)).block, (ad.add (i.toNat * 14)).off + 12, none⟩ = some (.int .i64 (rd_T35 xs i).f1.f4.f0) ∧ w.cell? ⟨(ad.add (i.toNat * 14)).block, (ad.add (i.toNat * 14)).off + 13, none⟩ = some (.slice A13 (rd_T35 xs i).f1.f4.f1.length c13) ∧ (rd_T35 xs i).f1.f4.f1.length ≤ c13 ∧ (Kd.int .i64).C w A13 (rd_T35 xs i).f1.f4.f1.length (rd_T35 xs i).f1.f4.f1 := by
  obtain ⟨ad, c, e, _, hK, hc0⟩ := Kd.C_get h z35 i h0 h1
  have hc : ∀ j u, c[j]? = some u → w.cell? (ad.add (i.toNat * 14 + j)) = some u := hc0
  obtain ⟨A13, c13, rfl, l13, g13⟩ := k35_open hK
  exact ⟨ad, A13, c13, e, hc 0 _ rfl, by rw [← add_field _ _ 1 (by omega)]; exact hc 1 _ rfl, by rw [← add_field _ _ 2 (by omega)]; exact hc 2 _ rfl, by rw [← add_field _ _ 3 (by omega)]; exact hc 3 _ rfl, by rw [← add_field _ _ 4 (by omega)]; exact hc 4 _ rfl, by rw [← add_field _ _ 5 (by omega)]; exact hc 5 _ rfl, by rw [← add_field _ _ 6 (by omega)]; exact hc 6 _ rfl, by rw [← add_field _ _ 7 (by omega)]; exact hc 7 _ rfl, by rw [← add_field _ _ 8 (by omega)]; exact hc 8 _ rfl, by rw [← add_field _ _ 9 (by omega)]; exact hc 9 _ rfl, by rw [← add_field _ _ 10 (by omega)]; exact hc 10 _ rfl, by rw [← add_field _ _ 11 (by omega)]; exact hc 11 _ rfl, by rw [← add_field _ _ 12 (by omega)]; exact hc 12 _ rfl, by rw [← add_field _ _ 13 (by omega)]; exact hc 13 _ rfl, l13, g13⟩

structure S37 where
  f0 : Int
  f1 : S28
  f2 : S31
end Go.Proofs.Ytomgiaakhpemaaa.P
