/- The plain side of the law BallotOrder: the printed law answers true at all numbers. -/
import Derived.Test.YtcpphhibelaplaaPx0
import Derived.Test.YtcpphhibelaplaaPx2
import Derived.Test.YtcpphhibelaplaaBallot
namespace Go.Proofs.Ytcpphhibelaplaa.P
open Go.RowKit Go.Proofs.YtcpphhibelaplaaW.PrintWords Go.Proofs.YtcpphhibelaplaaW.PrintLast Go.Proofs.YtcpphhibelaplaaW.PrintMore
set_option linter.unusedVariables false
theorem BallotOrder.pure (a0 a1 b0 b1 c0 c1 : Int) : ∃ k, colloquylaw07_BallotOrder.f k a0 a1 b0 b1 c0 c1 = some true := by
  refine ⟨3, ?_⟩
  unfold colloquylaw07_BallotOrder.f colloquylaw07_awake.f
  rw [cmp_eq a0 a1 b0 b1 0, cmp_eq b0 b1 c0 c1 0, cmp_eq b0 b1 a0 a1 0, cmp_eq a0 a1 c0 c1 0]
  simp only [Option.bind_some, if_true]
  have h1 := cmpB_cases a0 a1 b0 b1
  have h2 := cmpB_cases b0 b1 c0 c1
  have h3 := cmpB_cases b0 b1 a0 a1
  have h4 := cmpB_cases a0 a1 c0 c1
  generalize cmpB a0 a1 b0 b1 = x at *
  generalize cmpB b0 b1 c0 c1 = y at *
  generalize cmpB b0 b1 a0 a1 = z at *
  generalize cmpB a0 a1 c0 c1 = u at *
  rw [if_pos (show x = wrap64 (-z) by unfold wrap64; omega)]
  have he : ((x == 0) != (a0 == b0 && a1 == b1)) = false := by
    rw [bne_eq_false_iff_eq, Bool.eq_iff_iff]; simp only [Bool.and_eq_true, beq_iff_eq]; omega
  rw [he, if_neg (by simp), if_neg (by omega), if_neg (by omega)]
  by_cases hx : x > 0
  · rw [if_pos hx]
  rw [if_neg hx]
  by_cases hy : y > 0
  · rw [if_pos hy]
  rw [if_neg hy, decide_eq_true (by omega)]
end Go.Proofs.Ytcpphhibelaplaa.P
