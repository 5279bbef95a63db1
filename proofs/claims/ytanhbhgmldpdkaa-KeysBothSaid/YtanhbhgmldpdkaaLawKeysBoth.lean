/- The plain side of the law KeysBoth. -/
import Derived.Test.YtanhbhgmldpdkaaPx0
import Derived.Test.YtanhbhgmldpdkaaPx3
import Derived.Test.YtanhbhgmldpdkaaPx5
import Derived.Test.YtanhbhgmldpdkaaPx8
import Derived.Test.YtanhbhgmldpdkaaKeys
namespace Go.Proofs.Ytanhbhgmldpdkaa.P
open Go.RowKit Go.Proofs.YtanhbhgmldpdkaaW.PrintWords Go.Proofs.YtanhbhgmldpdkaaW.PrintLast Go.Proofs.YtanhbhgmldpdkaaW.PrintMore
set_option linter.unusedVariables false
theorem meet_comm (x y : S29) : meetB x y = meetB y x := by
  unfold meetB
  rw [show decide (x.f1 = y.f1) = decide (y.f1 = x.f1) from decide_eq_decide.2 ⟨Eq.symm, Eq.symm⟩]
  cases x.f0 <;> cases y.f0 <;> cases x.f2 <;> cases y.f2 <;> rfl
theorem meet_self (x : S29) : meetB x x = x.f2 := by
  unfold meetB; simp
theorem KeysBoth.pure (x y : S23) (p q : S29) : ∃ k, colloquylaw05_KeysBoth.f k x.f0 x.f1 x.f2 x.f3 x.f4 x.f5 y.f0 y.f1 y.f2 y.f3 y.f4 y.f5 p.f0 p.f1 p.f2 q.f0 q.f1 q.f2 = some true := by
  refine ⟨1, ?_⟩
  unfold colloquylaw05_KeysBoth.f
  have hj : ∀ b : Bool, b = liveB x → colloquylaw05_KeysBoth.j0 1 true b x.f0 x.f1 x.f2 x.f3 x.f4 x.f5 y.f0 y.f1 y.f2 y.f3 y.f4 y.f5 p.f0 p.f1 p.f2 q.f0 q.f1 q.f2 = some true := by
    rintro b rfl
    simp only [colloquylaw05_KeysBoth.j0, inter_eq, meet_eq, Option.bind_some]
    rw [inter_comm y x, inter_self, meet_comm q p, meet_self]
    simp
  simp only [keys_awake, may_eq, Option.bind_some]
  unfold liveB at hj
  by_cases h : mayC x.f0 x.f1 x.f2 x.f3 x.f4 x.f5 = true
  · rw [if_pos h]; exact hj _ (by rw [h]; rfl)
  · rw [if_neg h]; exact hj _ (by rw [Bool.eq_false_iff.2 h]; rfl)
end Go.Proofs.Ytanhbhgmldpdkaa.P
