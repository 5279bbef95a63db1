/- Whether a command may be, in plain words; no condition. -/
import Derived.Test.YtkijkdifmoifaaaPx0
import Derived.Test.YtkijkdifmoifaaaPx11
namespace Go.Proofs.Ytkijkdifmoifaaa.P
open Go.RowKit Go.Proofs.YtkijkdifmoifaaaW.PrintWords Go.Proofs.YtkijkdifmoifaaaW.PrintLast Go.Proofs.YtkijkdifmoifaaaW.PrintMore
set_option linter.unusedVariables false
/-- is a number from 1 to another one, if it is needed, or else 0? -/
def fitB (n most : Int) (needed : Bool) : Bool := if needed then decide (1 ≤ n) && decide (n ≤ most) else (n == 0)
theorem fits_eq (n most : Int) (needed : Bool) : command_fits.f n most needed = some (fitB n most needed) := by
  unfold command_fits.f fitB
  cases needed
  · simp
  · by_cases h : 1 ≤ n <;> simp [h]
def mayC (u s k c n : Int) (t : ByteArray) : Bool := (kindOf k).2.2.2.2 && (fitB u 1048576 (kindOf k).1 && (fitB s 1073741824 (kindOf k).1 && (fitB c 1048576 (kindOf k).1 && (fitB n 1073741824 (kindOf k).2.1 && fitB (t.size : Int) 64 (kindOf k).2.2.1))))
theorem cmdMay_eq (u s k c n : Int) (t : ByteArray) : command_May.f u s k c n t = some (mayC u s k c n t) := by
  unfold command_May.f command_of.f mayC
  simp only [fits_eq, Option.bind_some]
  cases (kindOf k).2.2.2.2 <;> cases fitB u 1048576 (kindOf k).1 <;> cases fitB s 1073741824 (kindOf k).1 <;> cases fitB c 1048576 (kindOf k).1 <;> cases fitB n 1073741824 (kindOf k).2.1 <;> rfl
end Go.Proofs.Ytkijkdifmoifaaa.P
