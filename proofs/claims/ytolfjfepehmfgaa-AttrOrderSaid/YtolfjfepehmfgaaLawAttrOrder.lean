/- The plain side of the law AttrOrder: the printed law answers true, at all lists and numbers of their kind. -/
import Derived.Test.YtolfjfepehmfgaaPx0
import Derived.Test.YtolfjfepehmfgaaPx1
import Derived.Test.YtolfjfepehmfgaaPx5
import Derived.Test.YtolfjfepehmfgaaAttrA
import Derived.Test.YtolfjfepehmfgaaAttrW
namespace Go.Proofs.Ytolfjfepehmfgaa.P
open Go.RowKit Go.Proofs.YtolfjfepehmfgaaW.PrintWords Go.Proofs.YtolfjfepehmfgaaW.PrintLast Go.Proofs.YtolfjfepehmfgaaW.PrintMore
set_option linter.unusedVariables false
theorem AttrOrder.pure (a0 : Int) (l0 : List Int) (a1 : Int) (l1 : List Int) (a2 : Int) (l2 : List Int) : ∃ k, colloquylaw06_AttrOrder.f k a0 l0 a1 l1 a2 l2 = some true := by
  obtain ⟨K, hK⟩ := awake_ev
  replace hK : ∀ k, K ≤ k → colloquylaw06_awake.f k = some true := hK
  refine ⟨K + 5, ?_⟩
  unfold colloquylaw06_AttrOrder.f
  rw [hK _ (by omega)]
  simp only [few_eq, Option.bind_some, if_true]
  have out : ∀ k, colloquylaw06_AttrOrder.j0 (k + 1) true true a0 l0 a1 l1 a2 l2 = some true := fun k => by simp only [colloquylaw06_AttrOrder.j0]; rfl
  have main : ∀ k, colloquylaw06_AttrOrder.j0 (k + 1) true false a0 l0 a1 l1 a2 l2 = some true := by
    intro k
    simp only [colloquylaw06_AttrOrder.j0, attr_Within.eq, attr_Same.eq, Option.bind_some, wi_refl]
    rw [if_neg (by simp), if_pos trivial]
    cases hx : wi a0 l0 a1 l1 with
    | false => simp [sm, hx]
    | true =>
      simp only [if_true]
      cases hy : wi a1 l1 a2 l2 with
      | true => simp only [if_true]; rw [wi_trans hx hy, if_pos rfl]; simp [sm, hx]
      | false => simp [sm, hx]
  split
  · split
    · cases decide ((l2.length : Int) ≤ 50)
      · exact out _
      · exact main _
    · exact out _
  · exact out _

end Go.Proofs.Ytolfjfepehmfgaa.P
