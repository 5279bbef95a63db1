/- What the document's ballots (layer 7) come to, in plain numbers: as the program's; no condition but that a list's length is a whole number of 63 bits. -/
import Derived.Test.YtcpphhibelaplaaPx0
import Derived.Test.YtcpphhibelaplaaPx2
import Derived.Test.YtcpphhibelaplaaPx5
import Derived.Test.YtcpphhibelaplaaPx6
import Derived.Test.YtcpphhibelaplaaBallot
namespace Go.Proofs.Ytcpphhibelaplaa.P
open Go.RowKit Go.Proofs.YtcpphhibelaplaaW.PrintWords Go.Proofs.YtcpphhibelaplaaW.PrintLast Go.Proofs.YtcpphhibelaplaaW.PrintMore
set_option linter.unusedVariables false
theorem refNext_eq (n b by_ : Int) : colloquyref07_Next.f n b by_ = some (if 1 ≤ by_ ∧ by_ ≤ 7 ∧ 0 ≤ n ∧ n < 1073741824 then (n + 1, by_, true) else (0, 0, false)) := by
  unfold colloquyref07_Next.f
  by_cases h1 : by_ < 1
  · rw [if_pos h1, if_neg (by omega)]
  rw [if_neg h1]
  by_cases h2 : by_ > 7
  · rw [if_pos h2, if_neg (by omega)]
  rw [if_neg h2]
  by_cases h3 : n < 0
  · rw [if_pos h3, if_neg (by omega)]
  rw [if_neg h3]
  by_cases h4 : n ≥ 1073741824
  · rw [if_pos h4, if_neg (by omega)]
  rw [if_neg h4, if_pos (by omega), show wrap64 (n + 1) = n + 1 by unfold wrap64; omega]
theorem refMay_eq (n b : Int) : colloquyref07_May.f n b = some (mayB n b) := by
  unfold colloquyref07_May.f mayB
  by_cases h0 : n = 0
  · subst h0
    by_cases h1 : b = 0
    · subst h1; rfl
    · by_cases h2 : 1 ≤ b
      · by_cases h3 : b ≤ 7 <;> simp [h1, h2, h3]
      · simp [h1, h2]
  · by_cases h1 : 0 ≤ n
    · by_cases h4 : n ≤ 1073741824
      · by_cases h2 : 1 ≤ b
        · by_cases h3 : b ≤ 7 <;> simp [h0, h1, h2, h3, h4]
        · simp [h0, h1, h2, h4]
      · simp [h0, h1, h4]
    · simp [h0, h1]
theorem refCmp_eq (a0 a1 b0 b1 : Int) (k : Nat) : colloquyref07_Cmp.f (k + 1) a0 a1 b0 b1 = some (cmpB a0 a1 b0 b1) := by
  have h := cmpB_cases a0 a1 b0 b1
  unfold colloquyref07_Cmp.f
  generalize cmpB a0 a1 b0 b1 = x at *
  have key : ∀ c : Bool, (c = true ↔ x = -1) → colloquyref07_Cmp.j0 (k + 1) c a0 a1 b0 b1 = some x := by
    intro c hc
    simp only [colloquyref07_Cmp.j0]
    cases c with
    | true => rw [if_pos rfl, hc.1 rfl]
    | false =>
      have hx : x ≠ -1 := fun e => by have := hc.2 e; cases this
      rw [if_neg (by simp)]
      by_cases e : (a0 == b0 && a1 == b1) = true
      · rw [if_pos e]
        simp only [Bool.and_eq_true, beq_iff_eq] at e
        rw [show x = 0 by omega]
      · rw [if_neg e]
        simp only [Bool.and_eq_true, beq_iff_eq] at e
        rw [show x = 1 by omega]
  by_cases h1 : a0 < b0
  · rw [if_pos h1]; exact key _ (by constructor <;> intro _ <;> first | rfl | omega)
  rw [if_neg h1]
  by_cases h2 : a0 = b0
  · rw [if_pos h2]; exact key _ (by rw [decide_eq_true_iff]; omega)
  · rw [if_neg h2]; exact key _ (by constructor <;> intro e <;> first | (cases e; done) | omega)
end Go.Proofs.Ytcpphhibelaplaa.P
