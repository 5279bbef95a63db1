/- Plain Lean functions and their contracts over the translation, written by a program of this session (myprint.py, over the kit's print); no condition but each contract's own. -/
import Derived.Test.YtkijkdifmoifaaaProg
import Derived.Test.YtkijkdifmoifaaaShort
import Derived.Below
import Derived.Deep.Draws
import Derived.Deep.AppendLies
import Derived.Maps.AppendAt
import Derived.OwnWalk
import Derived.Laws.BytesArg
import Derived.Laws.MakeOwn
import Derived.Laws.OwnMore
import Derived.Deep.OwnRows
import Derived.Tactics
import Derived.Lib.ConvBytes
import Derived.Laws.Slices
import Derived.WalkKit
import Derived.KernelRfl
import Derived.RowKit3
import Derived.Deep.LoopGhost
import Derived.Deep.QuietTactic
import Derived.BigQuiet
import Derived.WideLaws
import Derived.Deep.DeepCutAuto
import Derived.Deep.CutBlock
import Derived.Deep.RegionHeld3
import Derived.Laws.Rows
import Derived.Lib.AppendStr
import Derived.ArgAppend
import Derived.Laws.IdiomCopy
import Derived.OrdersHeld
import Derived.Laws.BitsLemmas
import Derived.RowKit
import Derived.Deep.WholeRow
import Derived.Lib.SliceRun
import Derived.Test.YtkijkdifmoifaaaWWords
import Derived.Test.YtkijkdifmoifaaaWLast
import Derived.Test.YtkijkdifmoifaaaWTab
import Derived.Test.YtkijkdifmoifaaaWFour
import Derived.Test.YtkijkdifmoifaaaWQPut
import Derived.Test.YtkijkdifmoifaaaWApart
import Derived.Test.YtkijkdifmoifaaaWArr
import Derived.Test.YtkijkdifmoifaaaWZeros
import Derived.Test.YtkijkdifmoifaaaWFoot
import Derived.Test.YtkijkdifmoifaaaWKept
import Derived.Test.YtkijkdifmoifaaaWShare
import Derived.Test.YtkijkdifmoifaaaWN
import Derived.Test.YtkijkdifmoifaaaWFootNe
import Derived.Test.YtkijkdifmoifaaaWAt
import Derived.Test.YtkijkdifmoifaaaWEqStruct
import Derived.Test.YtkijkdifmoifaaaWRepsOne
import Derived.Test.YtkijkdifmoifaaaWInv
import Derived.Test.YtkijkdifmoifaaaWInvWords
import Derived.Test.YtkijkdifmoifaaaWGuard
import Derived.Test.YtkijkdifmoifaaaWNEv
import Derived.Test.YtkijkdifmoifaaaWMore
namespace Go.Proofs.Ytkijkdifmoifaaa.P
open Go.RowKit Go.Proofs.YtkijkdifmoifaaaW.PrintWords Go.Proofs.YtkijkdifmoifaaaW.PrintLast Go.Proofs.YtkijkdifmoifaaaW.PrintMore
attribute [local go_sem] max2_int min2_int max_two min_two max_three min_three max_four min_four   -- for this text's walks alone
set_option linter.unusedVariables false
set_option linter.unusedSimpArgs false



def errW : Option Int → Value
  | none => .nilIface
  | some c => .iface 0 (.int .i64 c)
theorem errW_none : errW none = .nilIface := rfl
theorem errW_some (c : Int) : errW (some c) = .iface 0 (.int .i64 c) := rfl

theorem info3 : (Try.prog.info? 3).map (fun i => (i.zero, i.size, i.bytes)) = some (some (.int .i64 0), 1, 8) := by kernel_rfl
-- the values' own types
structure S30 where
  f0 : Int
  f1 : (List Int)
def k30 : Kd S30 := Kd.iso (Kd.pair (Kd.int .i64) (Kd.slice 3 (Kd.int .i64))) (fun x : S30 => (x.f0, x.f1))
theorem k30_open {w : World} {x : S30} {cs : List Value} (h : k30.K w x cs) : ∃ A1 c1, cs = [.int .i64 x.f0, .slice A1 x.f1.length c1] ∧ x.f1.length ≤ c1 ∧ (Kd.int .i64).C w A1 x.f1.length x.f1 := by
  obtain ⟨_, _, rfl, rfl, ⟨A1, c1, rfl, l1, g1⟩⟩ := h
  exact ⟨A1, c1, rfl, l1, g1⟩
structure S25 where
  f0 : Int
  f1 : Int
def k25 : Kd S25 := Kd.iso (Kd.pair (Kd.int .i64) (Kd.int .i64)) (fun x : S25 => (x.f0, x.f1))
theorem k25_open {w : World} {x : S25} {cs : List Value} (h : k25.K w x cs) : cs = [.int .i64 x.f0, .int .i64 x.f1] := by
  obtain ⟨_, _, rfl, rfl, rfl⟩ := h
  exact rfl
structure S27 where
  f0 : Int
  f1 : Int
  f2 : Int
  f3 : Int
  f4 : Int
  f5 : ByteArray
def k27 : Kd S27 := Kd.iso (Kd.pair (Kd.int .i64) (Kd.pair (Kd.int .i64) (Kd.pair (Kd.int .i64) (Kd.pair (Kd.int .i64) (Kd.pair (Kd.int .i64) Kd.string))))) (fun x : S27 => (x.f0, x.f1, x.f2, x.f3, x.f4, x.f5))
theorem k27_open {w : World} {x : S27} {cs : List Value} (h : k27.K w x cs) : cs = [.int .i64 x.f0, .int .i64 x.f1, .int .i64 x.f2, .int .i64 x.f3, .int .i64 x.f4, .string x.f5] := by
  obtain ⟨_, _, rfl, rfl, ⟨_, _, rfl, rfl, ⟨_, _, rfl, rfl, ⟨_, _, rfl, rfl, ⟨_, _, rfl, rfl, rfl⟩⟩⟩⟩⟩ := h
  exact rfl
structure S35 where
  f0 : Int
  f1 : S25
  f2 : S27
  f3 : S30
def k35 : Kd S35 := Kd.iso (Kd.pair (Kd.int .i64) (Kd.pair k25 (Kd.pair k27 k30))) (fun x : S35 => (x.f0, x.f1, x.f2, x.f3))
theorem k35_open {w : World} {x : S35} {cs : List Value} (h : k35.K w x cs) : ∃ A10 c10, cs = [.int .i64 x.f0, .int .i64 x.f1.f0, .int .i64 x.f1.f1, .int .i64 x.f2.f0, .int .i64 x.f2.f1, .int .i64 x.f2.f2, .int .i64 x.f2.f3, .int .i64 x.f2.f4, .string x.f2.f5, .int .i64 x.f3.f0, .slice A10 x.f3.f1.length c10] ∧ x.f3.f1.length ≤ c10 ∧ (Kd.int .i64).C w A10 x.f3.f1.length x.f3.f1 := by
  obtain ⟨_, _, rfl, rfl, ⟨_, _, rfl, s1, ⟨_, _, rfl, s3, s9⟩⟩⟩ := h
  obtain rfl := k25_open s1
  obtain rfl := k27_open s3
  obtain ⟨A10, c10, rfl, l10, g10⟩ := k30_open s9
  exact ⟨A10, c10, rfl, l10, g10⟩
structure S32 where
  f0 : Int
  f1 : S25
  f2 : S25
  f3 : S27
  f4 : S30
def k32 : Kd S32 := Kd.iso (Kd.pair (Kd.int .i64) (Kd.pair k25 (Kd.pair k25 (Kd.pair k27 k30)))) (fun x : S32 => (x.f0, x.f1, x.f2, x.f3, x.f4))
theorem k32_open {w : World} {x : S32} {cs : List Value} (h : k32.K w x cs) : ∃ A12 c12, cs = [.int .i64 x.f0, .int .i64 x.f1.f0, .int .i64 x.f1.f1, .int .i64 x.f2.f0, .int .i64 x.f2.f1, .int .i64 x.f3.f0, .int .i64 x.f3.f1, .int .i64 x.f3.f2, .int .i64 x.f3.f3, .int .i64 x.f3.f4, .string x.f3.f5, .int .i64 x.f4.f0, .slice A12 x.f4.f1.length c12] ∧ x.f4.f1.length ≤ c12 ∧ (Kd.int .i64).C w A12 x.f4.f1.length x.f4.f1 := by
  obtain ⟨_, _, rfl, rfl, ⟨_, _, rfl, s1, ⟨_, _, rfl, s3, ⟨_, _, rfl, s5, s11⟩⟩⟩⟩ := h
  obtain rfl := k25_open s1
  obtain rfl := k25_open s3
  obtain rfl := k27_open s5
  obtain ⟨A12, c12, rfl, l12, g12⟩ := k30_open s11
  exact ⟨A12, c12, rfl, l12, g12⟩
structure S61 where
  f0 : Bool
  f1 : Bool
  f2 : Bool
  f3 : Bool
end Go.Proofs.Ytkijkdifmoifaaa.P
