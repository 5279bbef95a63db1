/- The plain side of the law KeysRead. -/
import Derived.Test.YtanhbhgmldpdkaaPx0
import Derived.Test.YtanhbhgmldpdkaaPx3
import Derived.Test.YtanhbhgmldpdkaaPx6
import Derived.Test.YtanhbhgmldpdkaaPx8
import Derived.Test.YtanhbhgmldpdkaaKeys
namespace Go.Proofs.Ytanhbhgmldpdkaa.P
open Go.RowKit Go.Proofs.YtanhbhgmldpdkaaW.PrintWords Go.Proofs.YtanhbhgmldpdkaaW.PrintLast Go.Proofs.YtanhbhgmldpdkaaW.PrintMore
set_option linter.unusedVariables false
theorem KeysRead.pure (x y : S23) : colloquylaw05_KeysRead.f x.f0 x.f1 x.f2 x.f3 x.f4 x.f5 y.f0 y.f1 y.f2 y.f3 y.f4 y.f5 = some true := by
  unfold colloquylaw05_KeysRead.f
  simp only [keys_awake, may_eq, inter_eq, Option.bind_some, if_true]
  by_cases h : mayC x.f0 x.f1 x.f2 x.f3 x.f4 x.f5 = true
  · by_cases h2 : mayC y.f0 y.f1 y.f2 y.f3 y.f4 y.f5 = true
    · by_cases k1 : x.f2 = 7
      · by_cases k2 : y.f2 = 7
        · rw [if_pos h, if_pos h2, if_pos k1, if_pos k2, inter_val]
          have l1 : liveB x = true := by unfold liveB; rw [h, k1]; rfl
          have l2 : liveB y = true := by unfold liveB; rw [h2, k2]; rfl
          rw [l1, l2, k1, k2]
          have : readsC 7 = true := by rfl
          simp only [this]
          simp
          rfl
        · rw [if_pos h, if_pos h2, if_pos k1, if_neg k2]
      · rw [if_pos h, if_pos h2, if_neg k1]
    · rw [if_pos h, if_neg h2]
  · rw [if_neg h]
end Go.Proofs.Ytanhbhgmldpdkaa.P
