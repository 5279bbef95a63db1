/- The plain side of the law KeysOf. -/
import Derived.Test.YtanhbhgmldpdkaaPx0
import Derived.Test.YtanhbhgmldpdkaaPx3
import Derived.Test.YtanhbhgmldpdkaaPx4
import Derived.Test.YtanhbhgmldpdkaaKeys
namespace Go.Proofs.Ytanhbhgmldpdkaa.P
open Go.RowKit Go.Proofs.YtanhbhgmldpdkaaW.PrintWords Go.Proofs.YtanhbhgmldpdkaaW.PrintLast Go.Proofs.YtanhbhgmldpdkaaW.PrintMore
set_option linter.unusedVariables false
theorem KeysOf.pure (x : S23) : colloquylaw05_KeysOf.f x.f0 x.f1 x.f2 x.f3 x.f4 x.f5 = some true := by
  unfold colloquylaw05_KeysOf.f
  simp only [keys_awake, of_eq, may_eq, reads_eq, Option.bind_some, if_true]
  rw [keysOf_eq]
  unfold liveB
  by_cases h : mayC x.f0 x.f1 x.f2 x.f3 x.f4 x.f5 = true
  · by_cases h2 : x.f2 = 0
    · simp [h2]
    · simp [h, h2, rd_T29]
  · simp [h]
end Go.Proofs.Ytanhbhgmldpdkaa.P
