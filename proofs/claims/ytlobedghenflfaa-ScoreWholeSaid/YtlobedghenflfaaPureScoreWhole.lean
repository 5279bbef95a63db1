/- The plain side of the law ScoreWhole. -/
import Derived.Test.YtlobedghenflfaaPx0
import Derived.Test.YtlobedghenflfaaPx1
import Derived.Test.YtlobedghenflfaaPx5
import Derived.Test.YtlobedghenflfaaScore
namespace Go.Proofs.Ytlobedghenflfaa.Pure
open Go.RowKit Go.Proofs.Ytlobedghenflfaa.P Go.Proofs.YtlobedghenflfaaW.PrintWords Go.Proofs.YtlobedghenflfaaW.PrintLast
set_option linter.unusedVariables false
theorem ScoreWhole : colloquylaw13_ScoreWhole.Pure := by
  intro a b _ _
  refine ⟨2, ?_⟩
  have out : colloquylaw13_ScoreWhole.j0 2 a b true true = some true := by rw [colloquylaw13_ScoreWhole.j0]; rfl
  unfold colloquylaw13_ScoreWhole.f
  rw [awake_eq]
  simp only [bs, if_true]
  by_cases h1 : a < -67108864
  · rw [if_pos h1]; exact out
  rw [if_neg h1]
  by_cases h2 : a > 67108864
  · rw [if_pos h2]; exact out
  rw [if_neg h2]
  by_cases h3 : b < -67108864
  · rw [if_pos h3]; exact out
  rw [if_neg h3]
  by_cases h4 : b > 67108864
  · rw [if_pos h4]; exact out
  rw [if_neg h4]
  by_cases h5 : b = 0
  · rw [beq_iff_eq.2 h5]; exact out
  rw [beq_eq_false_iff_ne.2 h5, colloquylaw13_ScoreWhole.j0, if_neg (by simp)]
  have hm : (a * b).natAbs ≤ 67108864 * 67108864 := by
    rw [Int.natAbs_mul]
    exact Nat.mul_le_mul (by omega) (by omega)
  have w1 : wrap64 (a * b) = a * b := by unfold wrap64; omega
  rw [w1]
  simp only [of_f, quot_f, bs]
  rw [floor_f _ (Fl.wholeW_lt a), floor_f _ (quot_lt (a * b) b), Fl.floor_whole a (by omega) (by omega), Fl.floor_mul a b (by omega) (by omega) (by omega) (by omega) h5]
  simp only [bs]
  have hc : score_Cmp.f ((Fl.wholeW a : Nat) : Int) ((Fl.wholeW b : Nat) : Int) = some (Fl.cmpI a b) := by
    rw [cmp_f _ _ (Fl.wholeW_lt a) (Fl.wholeW_lt b), ← Fl.cmpW_eq _ _ (Fl.wholeW_lt a) (Fl.wholeW_lt b), Fl.cmp_whole a b (by omega) (by omega) (by omega) (by omega)]
  have hj : ∀ t : Int, (a ≤ b → t = Fl.cmpI a b) → colloquylaw13_ScoreWhole.j1 1 a b a true a true t = some true := by
    intro t ht
    rw [colloquylaw13_ScoreWhole.j1]
    simp only [of_f, bs, hc, if_true]
    have c1 := cmpI_cases a b
    by_cases hg : a > b
    · rw [if_pos hg, show Fl.cmpI a b = 1 by omega]; rfl
    · rw [if_neg hg, ht (by omega), beq_self_eq_true]
  have c1 := cmpI_cases a b
  by_cases hl : a < b
  · rw [if_pos hl]; exact hj _ (fun _ => by omega)
  · rw [if_neg hl]; exact hj _ (fun _ => by omega)
end Go.Proofs.Ytlobedghenflfaa.Pure
