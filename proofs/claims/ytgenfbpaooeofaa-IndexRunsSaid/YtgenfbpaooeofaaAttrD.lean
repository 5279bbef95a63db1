/- What the document's Dep of layer 6 comes to: the number in that place, or nought; a list's length is at most 2^63 - 1. -/
import Derived.Test.YtgenfbpaooeofaaPx0
import Derived.Test.YtgenfbpaooeofaaPx8
namespace Go.Proofs.Ytgenfbpaooeofaa.P
open Go.RowKit Go.Proofs.YtgenfbpaooeofaaW.PrintWords Go.Proofs.YtgenfbpaooeofaaW.PrintLast Go.Proofs.YtgenfbpaooeofaaW.PrintMore
set_option linter.unusedVariables false
theorem ref_Dep.eq (s : Int) (l : List Int) (hl : l.length ≤ 9223372036854775807) (i : Nat) (hi : i < 9223372036854775807) : colloquyref06_Dep.f s l ((i : Int) + 1) = some (l.getD i 0) := by
  have hw : wrap64 ((i : Int) + 1 - 1) = (i : Int) := by unfold wrap64; omega
  unfold colloquyref06_Dep.f
  rw [if_neg (by omega), hw]
  by_cases h : i < l.length
  · rw [if_neg (by omega), if_pos (by omega), if_pos (by omega)]; simp [rd]
  · rw [if_pos (by omega), List.getD_eq_getElem?_getD, List.getElem?_eq_none (by omega)]; rfl
end Go.Proofs.Ytgenfbpaooeofaa.P
