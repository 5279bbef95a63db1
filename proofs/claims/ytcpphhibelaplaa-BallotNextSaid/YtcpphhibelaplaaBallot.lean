/- What a comparison of two ballots tells, in plain numbers; no condition. -/
import Derived.Test.YtcpphhibelaplaaPx0
import Derived.Test.YtcpphhibelaplaaPx2
namespace Go.Proofs.Ytcpphhibelaplaa.P
open Go.RowKit Go.Proofs.YtcpphhibelaplaaW.PrintWords Go.Proofs.YtcpphhibelaplaaW.PrintLast Go.Proofs.YtcpphhibelaplaaW.PrintMore
set_option linter.unusedVariables false
theorem cmpI_cases (a b : Int) : (a < b ∧ cmpI a b = -1) ∨ (a = b ∧ cmpI a b = 0) ∨ (b < a ∧ cmpI a b = 1) := by
  unfold cmpI
  rcases Int.lt_trichotomy a b with h | h | h
  · exact .inl ⟨h, by rw [if_pos h]⟩
  · exact .inr (.inl ⟨h, by rw [if_neg (by omega), if_neg (by omega)]⟩)
  · exact .inr (.inr ⟨h, by rw [if_neg (by omega), if_pos h]⟩)
/-- what a comparison tells -/
theorem cmpB_cases (a0 a1 b0 b1 : Int) : ((a0 < b0 ∨ a0 = b0 ∧ a1 < b1) ∧ cmpB a0 a1 b0 b1 = -1) ∨ ((a0 = b0 ∧ a1 = b1) ∧ cmpB a0 a1 b0 b1 = 0) ∨ ((b0 < a0 ∨ a0 = b0 ∧ b1 < a1) ∧ cmpB a0 a1 b0 b1 = 1) := by
  unfold cmpB
  rcases cmpI_cases a0 b0 with ⟨h, e⟩ | ⟨h, e⟩ | ⟨h, e⟩
  · rw [e, if_neg (by omega)]; omega
  · rw [e, if_pos rfl]
    rcases cmpI_cases a1 b1 with ⟨h2, e2⟩ | ⟨h2, e2⟩ | ⟨h2, e2⟩ <;> rw [e2] <;> omega
  · rw [e, if_neg (by omega)]; omega
theorem next_eq (n b by_ : Int) : ballot_Next.f n b by_ = some (if 1 ≤ by_ ∧ by_ ≤ 7 ∧ 0 ≤ n ∧ n < 1073741824 then (n + 1, by_, true) else (0, 0, false)) := by
  unfold ballot_Next.f ballot_replica.f
  by_cases h1 : by_ ≥ 1
  · rw [if_pos h1]
    simp only [Option.bind_some]
    by_cases h2 : by_ ≤ 7
    · rw [decide_eq_true h2, if_pos rfl]
      by_cases h3 : n < 0
      · rw [if_pos h3, if_neg (by omega)]
      · rw [if_neg h3]
        by_cases h4 : n ≥ 1073741824
        · rw [if_pos h4, if_neg (by omega)]
        · rw [if_neg h4, if_pos (by omega), show wrap64 (n + 1) = n + 1 by unfold wrap64; omega]
    · rw [decide_eq_false h2, if_neg (by simp), if_neg (by omega)]
  · rw [if_neg h1]
    simp only [Option.bind_some]
    rw [if_neg (by simp), if_neg (by omega)]
def mayB (n b : Int) : Bool := (n == 0 && b == 0) || (decide (1 ≤ b) && decide (b ≤ 7) && (decide (0 ≤ n) && decide (n ≤ 1073741824)))
theorem mayB_iff (n b : Int) : mayB n b = true ↔ (n = 0 ∧ b = 0) ∨ (1 ≤ b ∧ b ≤ 7 ∧ 0 ≤ n ∧ n ≤ 1073741824) := by
  unfold mayB; simp [and_assoc]
theorem may_eq (n b : Int) : ballot_May.f n b = some (mayB n b) := by
  unfold ballot_May.f ballot_replica.f mayB
  cases h0 : (n == 0 && b == 0)
  · by_cases h1 : 1 ≤ b
    · by_cases h2 : b ≤ 7
      · by_cases h3 : 0 ≤ n <;> simp [h1, h2, h3]
      · simp [h1, h2]
    · simp [h1]
  · simp
end Go.Proofs.Ytcpphhibelaplaa.P
