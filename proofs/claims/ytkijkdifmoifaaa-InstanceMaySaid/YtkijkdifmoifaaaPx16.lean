/- Plain Lean functions and their contracts over the translation, written by a program of this session (myprint.py, over the kit's print); no condition but each contract's own. -/
import Derived.Test.YtkijkdifmoifaaaPx0
namespace Go.Proofs.Ytkijkdifmoifaaa.P
open Go.RowKit Go.Proofs.YtkijkdifmoifaaaW.PrintWords Go.Proofs.YtkijkdifmoifaaaW.PrintLast Go.Proofs.YtkijkdifmoifaaaW.PrintMore
attribute [local go_sem] max2_int min2_int max_two min_two max_three min_three max_four min_four   -- for this text's walks alone
set_option linter.unusedVariables false
set_option linter.unusedSimpArgs false

mutual
def colloquyref06_May.j0 : Nat → Int → Bool → Int → List Int → Option (Bool)
  | 0, _, _, _, _ => none
  | k + 1, x1, x28, x708000, x708001 => if x28 = true then (some false) else (colloquyref06_May.l0 k x1 0 x708000 x708001)
def colloquyref06_May.l0 : Nat → Int → Int → Int → List Int → Option (Bool)
  | 0, _, _, _, _ => none
  | k + 1, x1, x5, x708000, x708001 => if x5 < x1 then (if 0 ≤ x5 then (if x5 < (x708001.length : Int) then (if (rd x708001 x5) < 0 then (some false) else (if (rd x708001 x5) > 1048576 then (some false) else (colloquyref06_May.l0 k x1 (wrap64 (x5 + 1)) x708000 x708001))) else (none)) else (none)) else (some true)
end
def colloquyref06_May.f (k : Nat) (a0_0 : Int) (l0_1 : List Int) (a1 : Int) : Option (Bool) := if a1 < 1 then (colloquyref06_May.j0 k a1 true a0_0 l0_1) else (if a1 > 7 then (colloquyref06_May.j0 k a1 true a0_0 l0_1) else (if (l0_1.length : Int) = a1 then (if a0_0 < 0 then (colloquyref06_May.j0 k a1 true a0_0 l0_1) else (colloquyref06_May.j0 k a1 (decide (a0_0 > 1073741824)) a0_0 l0_1)) else (colloquyref06_May.j0 k a1 true a0_0 l0_1)))
end Go.Proofs.Ytkijkdifmoifaaa.P
