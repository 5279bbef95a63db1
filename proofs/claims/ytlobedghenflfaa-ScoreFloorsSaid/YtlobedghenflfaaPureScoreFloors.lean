/- The plain side of the law ScoreFloors. -/
import Derived.Test.YtlobedghenflfaaPx0
import Derived.Test.YtlobedghenflfaaPx1
import Derived.Test.YtlobedghenflfaaScore
namespace Go.Proofs.Ytlobedghenflfaa.Pure
open Go.RowKit Go.Proofs.Ytlobedghenflfaa.P Go.Proofs.YtlobedghenflfaaW.PrintWords Go.Proofs.YtlobedghenflfaaW.PrintLast
set_option linter.unusedVariables false
theorem ScoreFloors : colloquylaw13_ScoreFloors.Pure := by
  intro a b _ _
  refine ⟨1, ?_⟩
  have out : colloquylaw13_ScoreFloors.j0 1 a b true true = some true := by rw [colloquylaw13_ScoreFloors.j0]; rfl
  unfold colloquylaw13_ScoreFloors.f
  rw [awake_eq]
  simp only [bs, if_true]
  by_cases h1 : a < -67108864
  · rw [if_pos h1]; exact out
  rw [if_neg h1]
  by_cases h2 : a > 67108864
  · rw [if_pos h2]; exact out
  rw [if_neg h2]
  by_cases h3 : b < 1
  · rw [if_pos h3]; exact out
  rw [if_neg h3]
  by_cases h4 : b > 67108864
  · rw [decide_eq_true h4]; exact out
  rw [decide_eq_false h4, colloquylaw13_ScoreFloors.j0, if_neg (by simp), quot_f]
  simp only [bs]
  rw [floor_f _ (quot_lt a b), Fl.floors a b (by omega) (by omega) (by omega) (by omega)]
  simp only [bs, if_true]
  have d1 := Int.ediv_mul_le a (show b ≠ 0 by omega)
  have d2 := Int.lt_ediv_add_one_mul_self a (show 0 < b by omega)
  have d3 := Int.emod_add_mul_ediv a b
  have d4 := Int.emod_nonneg a (show b ≠ 0 by omega)
  have d5 := Int.emod_lt_of_pos a (show 0 < b by omega)
  have b1 : -67108864 ≤ a / b := by
    rw [Int.le_ediv_iff_mul_le (by omega)]
    have : (-67108864) * b ≤ -67108864 := by omega
    omega
  have b2 : a / b ≤ 67108864 := by
    apply Int.le_of_lt_add_one
    rw [Int.ediv_lt_iff_lt_mul (by omega)]
    omega
  rw [Int.add_mul, Int.one_mul] at d2
  have w1 : wrap64 (a / b + 1) = a / b + 1 := by unfold wrap64; omega
  have w2 : wrap64 (a / b * b) = a / b * b := by unfold wrap64; omega
  have w3 : wrap64 ((a / b + 1) * b) = (a / b + 1) * b := by rw [Int.add_mul, Int.one_mul]; unfold wrap64; omega
  rw [w1, w2, w3, if_pos d1, Int.add_mul, Int.one_mul, decide_eq_true (by omega)]
end Go.Proofs.Ytlobedghenflfaa.Pure
