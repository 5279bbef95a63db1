/- Plain Lean functions and their contracts over the translation, written by a program of this session (myprint.py, over the kit's print); no condition but each contract's own. -/
import Derived.Test.YtolfjfepehmfgaaPx0
import Derived.Test.YtolfjfepehmfgaaPx2
namespace Go.Proofs.Ytolfjfepehmfgaa.P
open Go.RowKit Go.Proofs.YtolfjfepehmfgaaW.PrintWords Go.Proofs.YtolfjfepehmfgaaW.PrintLast Go.Proofs.YtolfjfepehmfgaaW.PrintMore
attribute [local go_sem] max2_int min2_int max_two min_two max_three min_three max_four min_four   -- for this text's walks alone
set_option linter.unusedVariables false
set_option linter.unusedSimpArgs false

mutual
def colloquyref06_Within.l0 : Nat → Int → Int → List Int → Int → List Int → Option (Bool)
 | 0, _, _, _, _, _ => none
 | k + 1, x5, x211000, x211001, x212000, x212001 => if x5 ≤ (x211001.length : Int) then (colloquyref06_Within.j1 k x5 true x211000 x211001 x212000 x212001) else (colloquyref06_Within.j1 k x5 (decide (x5 ≤ (x212001.length : Int))) x211000 x211001 x212000 x212001)
def colloquyref06_Within.j1 : Nat → Int → Bool → Int → List Int → Int → List Int → Option (Bool)
 | 0, _, _, _, _, _, _ => none
 | k + 1, x5, x22, x211000, x211001, x212000, x212001 => if x22 = true then ((colloquyref06_Dep.f x211000 x211001 x5).bind fun t212 => ((colloquyref06_Dep.f x212000 x212001 x5).bind fun t213 => (if t212 > t213 then (some false) else (colloquyref06_Within.l0 k (wrap64 (x5 + 1)) x211000 x211001 x212000 x212001)))) else (some true)
end
def colloquyref06_Within.f (k : Nat) (a0_0 : Int) (l0_1 : List Int) (a1_0 : Int) (l1_1 : List Int) : Option (Bool) := if a0_0 > a1_0 then (some false) else (colloquyref06_Within.l0 k 1 a0_0 l0_1 a1_0 l1_1)
def colloquyref06_Same.f (k : Nat) (a0_0 : Int) (l0_1 : List Int) (a1_0 : Int) (l1_1 : List Int) : Option (Bool) := (colloquyref06_Within.f k a0_0 l0_1 a1_0 l1_1).bind fun t216 => ((colloquyref06_Within.f k a1_0 l1_1 a0_0 l0_1).bind fun t217 => (if t216 = true then (some t217) else (some false)))
def colloquyref06_Waits.f (a0_0 : Int) (l0_1 : List Int) (a1_0 : Int) (a1_1 : Int) : Option (Bool) := if a1_1 ≥ 1 then ((colloquyref06_Dep.f a0_0 l0_1 a1_0).bind fun t220 => (some (decide (a1_1 ≤ t220)))) else (some false)
end Go.Proofs.Ytolfjfepehmfgaa.P
