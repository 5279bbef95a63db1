/- The plain side of the law AttrTells: the printed law answers true, at all lists and numbers of their kind. -/
import Derived.Test.YtolfjfepehmfgaaPx0
import Derived.Test.YtolfjfepehmfgaaPx1
import Derived.Test.YtolfjfepehmfgaaPx3
import Derived.Test.YtolfjfepehmfgaaPx4
import Derived.Test.YtolfjfepehmfgaaPx6
import Derived.Test.YtolfjfepehmfgaaPx7
import Derived.Test.YtolfjfepehmfgaaPx8
import Derived.Test.YtolfjfepehmfgaaAttrA
import Derived.Test.YtolfjfepehmfgaaAttrW
import Derived.Test.YtolfjfepehmfgaaAttrMay
namespace Go.Proofs.Ytolfjfepehmfgaa.P
open Go.RowKit Go.Proofs.YtolfjfepehmfgaaW.PrintWords Go.Proofs.YtolfjfepehmfgaaW.PrintLast Go.Proofs.YtolfjfepehmfgaaW.PrintMore
set_option linter.unusedVariables false
theorem AttrTells.pure (a0 : Int) (l0 : List Int) (a1 : Int) (l1 : List Int) (n b j : Int) (h0 : l0.length ≤ 9223372036854775807) (h1 : l1.length ≤ 9223372036854775807) (hw : b ≤ 9223372036854775807) :
    ∃ k, colloquylaw06_AttrTells.f k a0 l0 a1 l1 n b j = some true := by
  refine Ev.rounds ?_
  unfold colloquylaw06_AttrTells.f
  refine Ev.bind (f := fun k t224 => (colloquylaw06_Few.f a0 l0).bind fun t225 => ((colloquylaw06_Few.f a1 l1).bind fun t226 => (if t224 = true then (if t225 = true then (colloquylaw06_AttrTells.j0 k n t224 (!t226) a0 l0 a1 l1 b j) else (colloquylaw06_AttrTells.j0 k n t224 true a0 l0 a1 l1 b j)) else (colloquylaw06_AttrTells.j0 k n t224 true a0 l0 a1 l1 b j)))) awake_ev ?_
  simp only [few_eq, Option.bind_some, if_true]
  have out : Ev (fun k => colloquylaw06_AttrTells.j0 k n true true a0 l0 a1 l1 b j) true := Ev.step (f := fun _ => some true) (fun k => by simp only [colloquylaw06_AttrTells.j0]; rfl) (Ev.now _)
  by_cases g0 : (l0.length : Int) ≤ 50
  · by_cases g1 : (l1.length : Int) ≤ 50
    · simp only [decide_eq_true g0, decide_eq_true g1, if_true, Bool.not_true]
      obtain ⟨K1, e1⟩ := attr_May.ev a0 l0 n (by omega)
      obtain ⟨K2, e2⟩ := ref_May.ev a0 l0 n
      obtain ⟨K3, e3⟩ := ref_Same.ev a0 l0 a1 l1 (by omega) (by omega)
      obtain ⟨K4, e4⟩ := ref_Within.ev a0 l0 a1 l1 (by omega) (by omega)
      refine Ev.step (f := fun k => (attr_May.f k a0 l0 n).bind fun t227 => ((colloquyref06_May.f k a0 l0 n).bind fun t228 => (if (t227 == t228) = true then ((attr_Same.f a0 l0 a1 l1).bind fun t229 => ((colloquyref06_Same.f k a0 l0 a1 l1).bind fun t230 => (if (t229 == t230) = true then ((attr_Within.f a0 l0 a1 l1).bind fun t231 => ((colloquyref06_Within.f k a0 l0 a1 l1).bind fun t232 => (if (t231 == t232) = true then ((attr_Waits.f a0 l0 b j).bind fun t233 => ((colloquyref06_Waits.f a0 l0 b j).bind fun t234 => (some (t233 == t234)))) else (some false)))) else (some false)))) else (some false)))) (fun k => ?_) ?_
      · simp only [colloquylaw06_AttrTells.j0]; rw [if_neg (by simp)]
      · refine ⟨K1 + K2 + K3 + K4, fun k hk => ?_⟩
        simp only [e1 k (by omega), e2 k (by omega), e3 k (by omega), e4 k (by omega), attr_Same.eq, attr_Within.eq, attr_Waits.eq a0 l0 h0 b j hw, ref_Waits.eq a0 l0 h0 b j hw, Option.bind_some, beq_self_eq_true, if_true]
    · simp only [decide_eq_true g0, decide_eq_false g1, if_true, Bool.not_false]; exact out
  · simp only [decide_eq_false g0]; exact out
end Go.Proofs.Ytolfjfepehmfgaa.P
