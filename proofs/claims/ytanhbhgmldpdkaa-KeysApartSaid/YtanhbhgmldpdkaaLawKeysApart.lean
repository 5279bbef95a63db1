/- The plain side of the law KeysApart. -/
import Derived.Test.YtanhbhgmldpdkaaPx0
import Derived.Test.YtanhbhgmldpdkaaPx3
import Derived.Test.YtanhbhgmldpdkaaPx6
import Derived.Test.YtanhbhgmldpdkaaPx8
import Derived.Test.YtanhbhgmldpdkaaKeys
namespace Go.Proofs.Ytanhbhgmldpdkaa.P
open Go.RowKit Go.Proofs.YtanhbhgmldpdkaaW.PrintWords Go.Proofs.YtanhbhgmldpdkaaW.PrintLast Go.Proofs.YtanhbhgmldpdkaaW.PrintMore
set_option linter.unusedVariables false
theorem KeysApart.pure (x y : S23) : ∃ k, colloquylaw05_KeysApart.f k x.f0 x.f1 x.f2 x.f3 x.f4 x.f5 y.f0 y.f1 y.f2 y.f3 y.f4 y.f5 = some true := by
  refine ⟨1, ?_⟩
  unfold colloquylaw05_KeysApart.f
  have out : colloquylaw05_KeysApart.j0 1 true true x.f0 x.f1 x.f2 x.f3 x.f4 x.f5 y.f0 y.f1 y.f2 y.f3 y.f4 y.f5 = some true := by simp only [colloquylaw05_KeysApart.j0]; rfl
  simp only [keys_awake, may_eq, Option.bind_some, if_true]
  by_cases h : mayC x.f0 x.f1 x.f2 x.f3 x.f4 x.f5 = true
  · by_cases h2 : mayC y.f0 y.f1 y.f2 y.f3 y.f4 y.f5 = true
    · rw [if_pos h, if_pos h2]
      by_cases k1 : x.f2 = 0
      · rw [if_pos k1]; exact out
      · rw [if_neg k1]
        by_cases k2 : y.f2 = 0
        · rw [k2] at out ⊢; exact out
        · rw [beq_eq_false_iff_ne.2 k2]
          simp only [colloquylaw05_KeysApart.j0, reads_eq, inter_eq, Option.bind_some]
          rw [inter_val]
          have l1 : liveB x = true := by unfold liveB; simp [h, k1]
          have l2 : liveB y = true := by unfold liveB; simp [h2, k2]
          rw [l1, l2]
          by_cases c1 : x.f0 = y.f0
          · simp [c1]
          · by_cases c2 : x.f3 = y.f3
            · cases readsC x.f2 <;> cases readsC y.f2 <;> simp [c1, c2]
            · simp [c1, c2]
    · rw [if_pos h, if_neg h2]; exact out
  · rw [if_neg h]; exact out
end Go.Proofs.Ytanhbhgmldpdkaa.P
