/- The plain side of the law ScoreTotal. -/
import Derived.Test.YtlobedghenflfaaPx0
import Derived.Test.YtlobedghenflfaaPx3
import Derived.Test.YtlobedghenflfaaScore
namespace Go.Proofs.Ytlobedghenflfaa.Pure
open Go.RowKit Go.Proofs.Ytlobedghenflfaa.P Go.Proofs.YtlobedghenflfaaW.PrintWords Go.Proofs.YtlobedghenflfaaW.PrintLast
set_option linter.unusedVariables false
theorem ScoreTotal : colloquylaw13_ScoreTotal.Pure := by
  intro a0 a1 a2 h0 h1 h2
  obtain ⟨x, rfl, hx⟩ := u64_range a0 h0
  obtain ⟨y, rfl, hy⟩ := u64_range a1 h1
  obtain ⟨z, rfl, hz⟩ := u64_range a2 h2
  unfold colloquylaw13_ScoreTotal.f
  rw [awake_eq, cmp_f x y hx hy, cmp_f y z hy hz, cmp_f y x hy hx, cmp_f x x hx hx, cmp_f x z hx hz]
  simp only [bs]
  generalize Fl.keyW x = a
  generalize Fl.keyW y = b
  generalize Fl.keyW z = c
  have c1 := cmpI_cases a b
  have c2 := cmpI_cases b c
  have c3 := cmpI_cases b a
  have c4 := cmpI_cases a a
  have c5 := cmpI_cases a c
  generalize Fl.cmpI a b = p at *
  generalize Fl.cmpI b c = q at *
  generalize Fl.cmpI b a = r at *
  generalize Fl.cmpI a a = s at *
  generalize Fl.cmpI a c = t at *
  have hw : wrap64 (-r) = -r := by unfold wrap64; omega
  rw [hw, if_pos (by omega), if_neg (by omega), if_neg (by omega), if_pos (by omega)]
  simp only [if_true]
  by_cases hp : p > 0
  · rw [if_pos hp]
  · rw [if_neg hp]
    by_cases hq : q > 0
    · rw [if_pos hq]
    · rw [if_neg hq, decide_eq_true (by omega)]
end Go.Proofs.Ytlobedghenflfaa.Pure
