/- The plain side of the law BallotNext: the printed law answers true at all numbers. -/
import Derived.Test.YtcpphhibelaplaaPx0
import Derived.Test.YtcpphhibelaplaaPx2
import Derived.Test.YtcpphhibelaplaaPx3
import Derived.Test.YtcpphhibelaplaaBallot
namespace Go.Proofs.Ytcpphhibelaplaa.P
open Go.RowKit Go.Proofs.YtcpphhibelaplaaW.PrintWords Go.Proofs.YtcpphhibelaplaaW.PrintLast Go.Proofs.YtcpphhibelaplaaW.PrintMore
set_option linter.unusedVariables false
theorem BallotNext.pure (a0 a1 b o : Int) : ∃ k, colloquylaw07_BallotNext.f k a0 a1 b o = some true := by
  refine ⟨3, ?_⟩
  unfold colloquylaw07_BallotNext.f colloquylaw07_awake.f
  simp only [next_eq, Option.bind_some, ballot_First.f]
  by_cases g : 1 ≤ b ∧ b ≤ 7 ∧ 0 ≤ a0 ∧ a0 < 1073741824
  · simp only [if_pos g, if_true]
    rw [cmp_eq (a0 + 1) b a0 a1 0, cmp_eq (a0 + 1) b 0 b 0, may_eq, (mayB_iff (a0 + 1) b).2 (by omega)]
    have h1 := cmpB_cases (a0 + 1) b a0 a1
    have h2 := cmpB_cases (a0 + 1) b 0 b
    generalize cmpB (a0 + 1) b a0 a1 = x at *
    generalize cmpB (a0 + 1) b 0 b = y at *
    simp only [Option.bind_some, if_true]
    rw [if_pos (by omega), if_pos (by omega)]
    by_cases g2 : 1 ≤ o ∧ o ≤ 7 ∧ 0 ≤ a0 ∧ a0 < 1073741824
    · simp only [if_pos g2, if_true]
      by_cases e : b = o
      · rw [if_pos e]
      · rw [if_neg e]
        have : (b == o) = false := beq_eq_false_iff_ne.2 e
        simp [this]
    · simp only [if_neg g2]; simp
  · simp only [if_neg g]; simp
end Go.Proofs.Ytcpphhibelaplaa.P
