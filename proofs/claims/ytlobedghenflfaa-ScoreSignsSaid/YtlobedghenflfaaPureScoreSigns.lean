/- The plain side of the law ScoreSigns. -/
import Derived.Test.YtlobedghenflfaaPx0
import Derived.Test.YtlobedghenflfaaPx2
import Derived.Test.YtlobedghenflfaaScore
namespace Go.Proofs.Ytlobedghenflfaa.Pure
open Go.RowKit Go.Proofs.Ytlobedghenflfaa.P Go.Proofs.YtlobedghenflfaaW.PrintWords Go.Proofs.YtlobedghenflfaaW.PrintLast
set_option linter.unusedVariables false
theorem xor_flip (x : Nat) (h : x < 2 ^ 64) : Go.bits .xor .u64 (x : Int) 9223372036854775808 = ((x ^^^ 2 ^ 63 : Nat) : Int) := by
  rw [u64_xor (x : Int) 9223372036854775808 (by omega) (by omega) (by omega) (by omega), Int.toNat_natCast]; rfl
theorem ScoreSigns : colloquylaw13_ScoreSigns.Pure := by
  intro a b _ _
  refine ⟨1, ?_⟩
  have out : colloquylaw13_ScoreSigns.j0 1 a b true true = some true := by rw [colloquylaw13_ScoreSigns.j0]; rfl
  unfold colloquylaw13_ScoreSigns.f
  rw [awake_eq]
  simp only [bs, if_true]
  by_cases h1 : a = 0
  · rw [if_pos h1]; exact out
  rw [if_neg h1]
  by_cases h2 : b = 0
  · rw [if_pos h2]; exact out
  rw [if_neg h2]
  by_cases h3 : a < -9007199254740992
  · rw [if_pos h3]; exact out
  rw [if_neg h3]
  by_cases h4 : a > 9007199254740992
  · rw [if_pos h4]; exact out
  rw [if_neg h4]
  by_cases h5 : b < -9007199254740992
  · rw [if_pos h5]; exact out
  rw [if_neg h5]
  by_cases h6 : b > 9007199254740992
  · rw [decide_eq_true h6]; exact out
  rw [decide_eq_false h6, colloquylaw13_ScoreSigns.j0, if_neg (by simp)]
  have w1 : wrap64 (-a) = -a := by unfold wrap64; omega
  have w2 : wrap64 (-b) = -b := by unfold wrap64; omega
  rw [w1, w2, quot_f, quot_f, quot_f]
  simp only [bs]
  have ql := quot_lt a (-b)
  obtain ⟨R, hR, e1, e2, e3⟩ := Fl.signs a b h1 h2 (by omega) (by omega) (by omega) (by omega)
  obtain ⟨f1, f2⟩ := Fl.word_flip (decide (a < 0) ^^ decide (b < 0)) R hR
  rw [e3] at ql
  rw [e1, e2, e3, if_pos rfl, xor_flip _ ql, f1, if_pos rfl]
  congr 1
  have hge : decide (((Ieee.double.word (decide (a < 0) ^^ decide (b < 0)) R : Nat) : Int) ≥ 9223372036854775808) = (decide (a < 0) ^^ decide (b < 0)) := by
    cases hs : (decide (a < 0) ^^ decide (b < 0))
    · rw [hs] at f2
      rw [decide_eq_false_iff_not]
      intro hg
      have := f2.1 (by omega)
      cases this
    · rw [hs] at f2
      rw [decide_eq_true_iff]
      have := f2.2 rfl
      omega
  rw [hge]
  cases decide (a < 0) <;> cases decide (b < 0) <;> rfl
end Go.Proofs.Ytlobedghenflfaa.Pure
