/- The plain side of the law BallotFirst: the printed law answers true at all numbers. -/
import Derived.Test.YtcpphhibelaplaaPx0
import Derived.Test.YtcpphhibelaplaaPx2
import Derived.Test.YtcpphhibelaplaaPx3
import Derived.Test.YtcpphhibelaplaaBallot
namespace Go.Proofs.Ytcpphhibelaplaa.P
open Go.RowKit Go.Proofs.YtcpphhibelaplaaW.PrintWords Go.Proofs.YtcpphhibelaplaaW.PrintLast Go.Proofs.YtcpphhibelaplaaW.PrintMore
set_option linter.unusedVariables false
theorem BallotFirst.pure (a0 a1 b0 b1 who : Int) : ∃ k, colloquylaw07_BallotFirst.f k a0 a1 b0 b1 who = some true := by
  refine ⟨6, ?_⟩
  unfold colloquylaw07_BallotFirst.f colloquylaw07_awake.f
  simp only [Option.bind_some, if_true]
  have out : ∀ k, colloquylaw07_BallotFirst.j0 (k + 1) a0 a1 who true true b0 b1 = some true := fun k => by simp only [colloquylaw07_BallotFirst.j0]; rfl
  have last : ∀ want : Int, want = cmpI a0 a1 → 1 ≤ a0 → a0 ≤ 7 → 1 ≤ a1 → a1 ≤ 7 → colloquylaw07_BallotFirst.j2 (3 + 1) a0 a1 who want b0 b1 = some true := by
    intro want hw g1 g2 g3 g4
    simp only [colloquylaw07_BallotFirst.j2, next_eq, ballot_First.f, may_eq, Option.bind_some]
    rw [(mayB_iff 0 a0).2 (by omega), if_pos rfl, cmp_eq 0 a0 0 0 0, cmp_eq 0 a0 0 a1 0]
    simp only [Option.bind_some]
    have h1 := cmpB_cases 0 a0 0 0
    have h2 := cmpB_cases 0 a0 0 a1
    have h3 := cmpI_cases a0 a1
    generalize cmpB 0 a0 0 0 = x at *
    generalize cmpB 0 a0 0 a1 = y at *
    rw [← hw] at h3
    rw [if_pos (by omega), if_pos (by omega)]
    by_cases g : 1 ≤ who ∧ who ≤ 7 ∧ 0 ≤ b0 ∧ b0 < 1073741824
    · simp only [if_pos g, if_true]
      rw [cmp_eq (b0 + 1) who 0 a0 0]
      have h4 := cmpB_cases (b0 + 1) who 0 a0
      generalize cmpB (b0 + 1) who 0 a0 = u at *
      simp only [Option.bind_some]
      rw [decide_eq_true (by omega)]
    · simp only [if_neg g]; simp
  have main : 1 ≤ a0 → a0 ≤ 7 → 1 ≤ a1 → a1 ≤ 7 → colloquylaw07_BallotFirst.j0 (5 + 1) a0 a1 who true false b0 b1 = some true := by
    intro g1 g2 g3 g4
    simp only [colloquylaw07_BallotFirst.j0]
    rw [if_neg (by simp)]
    have h3 := cmpI_cases a0 a1
    by_cases h : a0 < a1
    · rw [if_pos h]
      simp only [colloquylaw07_BallotFirst.j1]
      rw [if_neg (by omega)]
      exact last _ (by omega) g1 g2 g3 g4
    · rw [if_neg h]
      simp only [colloquylaw07_BallotFirst.j1]
      by_cases h' : a0 > a1
      · rw [if_pos h']; exact last _ (by omega) g1 g2 g3 g4
      · rw [if_neg h']; exact last _ (by omega) g1 g2 g3 g4
  by_cases g1 : a0 < 1
  · rw [if_pos g1]; exact out _
  rw [if_neg g1]
  by_cases g2 : a0 > 7
  · rw [if_pos g2]; exact out _
  rw [if_neg g2]
  by_cases g3 : a1 < 1
  · rw [if_pos g3]; exact out _
  rw [if_neg g3]
  by_cases g4 : a1 > 7
  · rw [decide_eq_true g4]; exact out _
  rw [decide_eq_false g4]; exact main (by omega) (by omega) (by omega) (by omega)
end Go.Proofs.Ytcpphhibelaplaa.P
