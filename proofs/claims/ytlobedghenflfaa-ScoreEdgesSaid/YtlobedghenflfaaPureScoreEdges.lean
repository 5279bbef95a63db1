/- The plain side of the law ScoreEdges. -/
import Derived.Test.YtlobedghenflfaaPx0
import Derived.Test.YtlobedghenflfaaPx4
import Derived.Test.YtlobedghenflfaaScore
namespace Go.Proofs.Ytlobedghenflfaa.Pure
open Go.RowKit Go.Proofs.Ytlobedghenflfaa.P Go.Proofs.YtlobedghenflfaaW.PrintWords Go.Proofs.YtlobedghenflfaaW.PrintLast
set_option linter.unusedVariables false
theorem ScoreEdges : colloquylaw13_ScoreEdges.Pure := by
  intro a b c _ _ _
  refine ⟨1, ?_⟩
  unfold colloquylaw13_ScoreEdges.f
  rw [awake_eq, quot_f, quot_f]
  simp only [bs]
  rw [floor_f _ (quot_lt a 0), Fl.edge_floor]
  simp only [bs, if_true]
  rw [colloquylaw13_ScoreEdges.j0, if_neg (by simp)]
  rw [cmp_f _ _ (quot_lt a 0) (quot_lt b c)]
  simp only [bs]
  by_cases ha : a = 0
  · rw [if_pos ha]
    subst ha
    have e : Fl.quotW 0 0 = 9221120237041090560 := rfl
    rw [e, Fl.edge_nan]
    have k := Fl.key_le (Fl.quotW b c)
    have c1 := cmpI_cases (2 ^ 63) (Fl.keyW (Fl.quotW b c))
    rw [if_pos (by omega)]; rfl
  · rw [if_neg ha]
    by_cases hc : c = 0
    · rw [if_pos hc]
    · rw [if_neg hc]
      obtain ⟨k1, k2⟩ := Fl.edge_key a b c ha hc
      have c1 := cmpI_cases (Fl.keyW (Fl.quotW a 0)) (Fl.keyW (Fl.quotW b c))
      by_cases hp : a > 0
      · have := k1 hp
        rw [if_pos hp, if_pos (by omega)]
      · have := k2 (by omega)
        rw [if_neg hp, if_pos (by omega), decide_eq_true (by omega)]
end Go.Proofs.Ytlobedghenflfaa.Pure
