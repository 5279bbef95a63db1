/- The plain side of the law ScoreRises. -/
import Derived.Test.YtlobedghenflfaaPx0
import Derived.Test.YtlobedghenflfaaPx4
import Derived.Test.YtlobedghenflfaaScore
namespace Go.Proofs.Ytlobedghenflfaa.Pure
open Go.RowKit Go.Proofs.Ytlobedghenflfaa.P Go.Proofs.YtlobedghenflfaaW.PrintWords Go.Proofs.YtlobedghenflfaaW.PrintLast
set_option linter.unusedVariables false
theorem ScoreRises : colloquylaw13_ScoreRises.Pure := by
  intro a c b d _ _ _ _
  refine ⟨1, ?_⟩
  have out : colloquylaw13_ScoreRises.j0 1 a c b d true true = some true := by rw [colloquylaw13_ScoreRises.j0]; rfl
  unfold colloquylaw13_ScoreRises.f
  rw [awake_eq]
  simp only [bs, if_true]
  by_cases h1 : a > c
  · rw [if_pos h1]; exact out
  rw [if_neg h1]
  by_cases h2 : b > d
  · rw [if_pos h2]; exact out
  rw [if_neg h2]
  by_cases h3 : b < 1
  · rw [if_pos h3]; exact out
  rw [if_neg h3]
  by_cases h4 : d > 9007199254740992
  · rw [if_pos h4]; exact out
  rw [if_neg h4]
  by_cases h5 : a < -9007199254740992
  · rw [if_pos h5]; exact out
  rw [if_neg h5]
  by_cases h6 : c > 9007199254740992
  · rw [decide_eq_true h6]; exact out
  rw [decide_eq_false h6, colloquylaw13_ScoreRises.j0, if_neg (by simp)]
  have w1 : wrap64 (-a) = -a := by unfold wrap64; omega
  have w2 : wrap64 (-b) = -b := by unfold wrap64; omega
  rw [w1, w2]
  simp only [quot_f, bs]
  rw [cmp_f _ _ (quot_lt a b) (quot_lt c b), cmp_f _ _ (quot_lt a d) (quot_lt a b)]
  simp only [bs]
  have r1 := Fl.rises a c b (by omega) (by omega) (by omega) (by omega) (by omega)
  have c1 := cmpI_cases (Fl.keyW (Fl.quotW a b)) (Fl.keyW (Fl.quotW c b))
  have c2 := cmpI_cases (Fl.keyW (Fl.quotW a d)) (Fl.keyW (Fl.quotW a b))
  have fin : a ≠ 0 → ((Fl.quotW (-a) (-b) : Nat) : Int) = (Fl.quotW a b : Nat) := fun ha => by
    rw [Fl.opp a b ha (by omega) (by omega) (by omega) (by omega) (by omega)]
  by_cases h7 : a < 1
  · rw [if_pos h7, if_pos (by omega)]
    by_cases h0 : a = 0
    · rw [if_pos h0]
    · rw [if_neg h0, fin h0, beq_self_eq_true]
  · have r2 := Fl.falls a b d (by omega) (by omega) (by omega) (by omega) (by omega)
    rw [if_neg h7, if_pos (by omega), if_pos (by omega), if_neg (by omega), fin (by omega), beq_self_eq_true]
end Go.Proofs.Ytlobedghenflfaa.Pure
