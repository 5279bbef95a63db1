/- What the printed functions of layer 6 that tell whether one waits come to; a list's length is at most 2^63 - 1. -/
import Derived.Test.YtolfjfepehmfgaaPx0
import Derived.Test.YtolfjfepehmfgaaPx1
import Derived.Test.YtolfjfepehmfgaaPx2
import Derived.Test.YtolfjfepehmfgaaPx4
import Derived.Test.YtolfjfepehmfgaaPx8
import Derived.Test.YtolfjfepehmfgaaAttrD
namespace Go.Proofs.Ytolfjfepehmfgaa.P
open Go.RowKit Go.Proofs.YtolfjfepehmfgaaW.PrintWords Go.Proofs.YtolfjfepehmfgaaW.PrintLast Go.Proofs.YtolfjfepehmfgaaW.PrintMore
set_option linter.unusedVariables false
/-- the dep of any replica -/
def depOf (l : List Int) (by_ : Int) : Int := if by_ < 1 then 0 else l.getD (by_.toNat - 1) 0
theorem dep_any (l : List Int) (hl : l.length ≤ 9223372036854775807) (i : Int) (hi : i ≤ 9223372036854775807) : attr_deps_of.f l i = some (depOf l i) := by
  unfold depOf
  by_cases h : i < 1
  · rw [if_pos h]; unfold attr_deps_of.f; rw [if_pos h]
  · rw [if_neg h]
    have := dep_of l hl (i.toNat - 1) (by omega)
    rwa [show ((i.toNat - 1 : Nat) : Int) + 1 = i by omega] at this
theorem ref_dep_any (s : Int) (l : List Int) (hl : l.length ≤ 9223372036854775807) (i : Int) (hi : i ≤ 9223372036854775807) : colloquyref06_Dep.f s l i = some (depOf l i) := by
  unfold depOf
  by_cases h : i < 1
  · rw [if_pos h]; unfold colloquyref06_Dep.f; rw [if_pos h]
  · rw [if_neg h]
    have := ref_Dep.eq s l hl (i.toNat - 1) (by omega)
    rwa [show ((i.toNat - 1 : Nat) : Int) + 1 = i by omega] at this
def wt (l : List Int) (by_ slot : Int) : Bool := decide (1 ≤ slot) && decide (slot ≤ depOf l by_)
theorem attr_Waits.eq (s : Int) (l : List Int) (hl : l.length ≤ 9223372036854775807) (b j : Int) (hb : b ≤ 9223372036854775807) : attr_Waits.f s l b j = some (wt l b j) := by unfold attr_Waits.f wt; rw [dep_any l hl b hb]; by_cases h : 1 ≤ j <;> simp [h]
theorem ref_Waits.eq (s : Int) (l : List Int) (hl : l.length ≤ 9223372036854775807) (b j : Int) (hb : b ≤ 9223372036854775807) : colloquyref06_Waits.f s l b j = some (wt l b j) := by unfold colloquyref06_Waits.f wt; rw [ref_dep_any s l hl b hb]; by_cases h : 1 ≤ j <;> simp [h]
end Go.Proofs.Ytolfjfepehmfgaa.P
