/- Plain Lean functions and their contracts over the translation, written by a program of this session (myprint.py, over the kit's print); no condition but each contract's own. -/
import Derived.Test.YtolfjfepehmfgaaPx0
import Derived.Test.YtolfjfepehmfgaaPx2
namespace Go.Proofs.Ytolfjfepehmfgaa.P
open Go.RowKit Go.Proofs.YtolfjfepehmfgaaW.PrintWords Go.Proofs.YtolfjfepehmfgaaW.PrintLast Go.Proofs.YtolfjfepehmfgaaW.PrintMore
attribute [local go_sem] max2_int min2_int max_two min_two max_three min_three max_four min_four   -- for this text's walks alone
set_option linter.unusedVariables false
set_option linter.unusedSimpArgs false

mutual
def colloquyref06_Merge.j0 : Nat → Int → List Int → Int → List Int → Int → Option (Int × List Int)
 | 0, _, _, _, _, _ => none
 | k + 1, x137000, x137001, x138000, x138001, x140000 => if x138000 > x140000 then (colloquyref06_Merge.j1 k x137000 x137001 x138000 x138001 x138000) else (colloquyref06_Merge.j1 k x137000 x137001 x138000 x138001 x140000)
def colloquyref06_Merge.j1 : Nat → Int → List Int → Int → List Int → Int → Option (Int × List Int)
 | 0, _, _, _, _, _ => none
 | k + 1, x137000, x137001, x138000, x138001, x140000 => colloquyref06_Merge.l0 k 1 x137000 x137001 x138000 x138001 x140000 ([] : List Int)
def colloquyref06_Merge.l0 : Nat → Int → Int → List Int → Int → List Int → Int → List Int → Option (Int × List Int)
 | 0, _, _, _, _, _, _, _ => none
 | k + 1, x6, x137000, x137001, x138000, x138001, x140000, x140001 => if x6 ≤ (x137001.length : Int) then (colloquyref06_Merge.j3 k x6 true x137000 x137001 x138000 x138001 x140000 x140001) else (colloquyref06_Merge.j3 k x6 (decide (x6 ≤ (x138001.length : Int))) x137000 x137001 x138000 x138001 x140000 x140001)
def colloquyref06_Merge.j3 : Nat → Int → Bool → Int → List Int → Int → List Int → Int → List Int → Option (Int × List Int)
 | 0, _, _, _, _, _, _, _, _ => none
 | k + 1, x6, x36, x137000, x137001, x138000, x138001, x140000, x140001 => if x36 = true then ((colloquyref06_Dep.f x137000 x137001 x6).bind fun t140 => (if t140 > 0 then ((colloquyref06_Dep.f x137000 x137001 x6).bind fun t141 => (colloquyref06_Merge.j4 k x6 t141 x137000 x137001 x138000 x138001 x140000 x140001)) else (colloquyref06_Merge.j4 k x6 0 x137000 x137001 x138000 x138001 x140000 x140001))) else (some (x140000, x140001))
def colloquyref06_Merge.j4 : Nat → Int → Int → Int → List Int → Int → List Int → Int → List Int → Option (Int × List Int)
 | 0, _, _, _, _, _, _, _, _ => none
 | k + 1, x6, x7, x137000, x137001, x138000, x138001, x140000, x140001 => (colloquyref06_Dep.f x138000 x138001 x6).bind fun t142 => (if t142 > x7 then ((colloquyref06_Dep.f x138000 x138001 x6).bind fun t143 => (if x140001.length < 17592186044416 then (colloquyref06_Merge.l0 k (wrap64 (x6 + 1)) x137000 x137001 x138000 x138001 x140000 (x140001 ++ [t143])) else (none))) else (if x140001.length < 17592186044416 then (colloquyref06_Merge.l0 k (wrap64 (x6 + 1)) x137000 x137001 x138000 x138001 x140000 (x140001 ++ [x7])) else (none)))
end
def colloquyref06_Merge.f (k : Nat) (a0_0 : Int) (l0_1 : List Int) (a1_0 : Int) (l1_1 : List Int) : Option (Int × List Int) := if a0_0 > 0 then (colloquyref06_Merge.j0 k a0_0 l0_1 a1_0 l1_1 a0_0) else (colloquyref06_Merge.j0 k a0_0 l0_1 a1_0 l1_1 0)
end Go.Proofs.Ytolfjfepehmfgaa.P
