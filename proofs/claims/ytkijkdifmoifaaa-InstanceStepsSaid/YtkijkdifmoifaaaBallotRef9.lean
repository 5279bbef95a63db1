/- Whether a ballot may be, and how two compare, by the document (layer 7): as the program's; no condition. -/
import Derived.Test.YtkijkdifmoifaaaPx0
import Derived.Test.YtkijkdifmoifaaaPx7
import Derived.Test.YtkijkdifmoifaaaCmp
namespace Go.Proofs.Ytkijkdifmoifaaa.P
open Go.RowKit Go.Proofs.YtkijkdifmoifaaaW.PrintWords Go.Proofs.YtkijkdifmoifaaaW.PrintLast Go.Proofs.YtkijkdifmoifaaaW.PrintMore
set_option linter.unusedVariables false
theorem refMay_eq (n b : Int) : colloquyref07_May.f n b = some (mayB n b) := by
  unfold colloquyref07_May.f mayB
  by_cases h0 : n = 0
  · subst h0
    by_cases h1 : b = 0
    · subst h1; rfl
    · by_cases h2 : 1 ≤ b
      · by_cases h3 : b ≤ 7 <;> simp [h1, h2, h3]
      · simp [h1, h2]
  · by_cases h1 : 0 ≤ n
    · by_cases h4 : n ≤ 1073741824
      · by_cases h2 : 1 ≤ b
        · by_cases h3 : b ≤ 7 <;> simp [h0, h1, h2, h3, h4]
        · simp [h0, h1, h2, h4]
      · simp [h0, h1, h4]
    · simp [h0, h1]
theorem refCmp_eq (a0 a1 b0 b1 : Int) (k : Nat) : colloquyref07_Cmp.f (k + 1) a0 a1 b0 b1 = some (cmpB a0 a1 b0 b1) := by
  have h := cmpB_cases a0 a1 b0 b1
  unfold colloquyref07_Cmp.f
  generalize cmpB a0 a1 b0 b1 = x at *
  have key : ∀ c : Bool, (c = true ↔ x = -1) → colloquyref07_Cmp.j0 (k + 1) c a0 a1 b0 b1 = some x := by
    intro c hc
    simp only [colloquyref07_Cmp.j0]
    cases c with
    | true => rw [if_pos rfl, hc.1 rfl]
    | false =>
      have hx : x ≠ -1 := fun e => by have := hc.2 e; cases this
      rw [if_neg (by simp)]
      by_cases e : (a0 == b0 && a1 == b1) = true
      · rw [if_pos e]
        simp only [Bool.and_eq_true, beq_iff_eq] at e
        rw [show x = 0 by omega]
      · rw [if_neg e]
        simp only [Bool.and_eq_true, beq_iff_eq] at e
        rw [show x = 1 by omega]
  by_cases h1 : a0 < b0
  · rw [if_pos h1]; exact key _ (by constructor <;> intro _ <;> first | rfl | omega)
  rw [if_neg h1]
  by_cases h2 : a0 = b0
  · rw [if_pos h2]; exact key _ (by rw [decide_eq_true_iff]; omega)
  · rw [if_neg h2]; exact key _ (by constructor <;> intro e <;> first | (cases e; done) | omega)
end Go.Proofs.Ytkijkdifmoifaaa.P
