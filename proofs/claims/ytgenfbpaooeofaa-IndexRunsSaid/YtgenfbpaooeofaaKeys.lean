/- What the keys of commands tell, in plain words; no condition. -/
import Derived.Test.YtgenfbpaooeofaaPx0
import Derived.Test.YtgenfbpaooeofaaPx4
import Derived.Test.YtgenfbpaooeofaaPx6
namespace Go.Proofs.Ytgenfbpaooeofaa.P
open Go.RowKit Go.Proofs.YtgenfbpaooeofaaW.PrintWords Go.Proofs.YtgenfbpaooeofaaW.PrintLast Go.Proofs.YtgenfbpaooeofaaW.PrintMore
set_option linter.unusedVariables false
/-- may be, and is not Nop -/
def liveB (x : S24) : Bool := mayC x.f0 x.f1 x.f2 x.f3 x.f4 x.f5 && (x.f2 != 0)
theorem keysOf_eq (x : S24) : keysOf x.f0 x.f1 x.f2 x.f3 x.f4 x.f5 = if liveB x = true then [⟨true, x.f0, true⟩, ⟨false, x.f3, !readsC x.f2⟩] else [] := by
  unfold keysOf liveB
  by_cases h : mayC x.f0 x.f1 x.f2 x.f3 x.f4 x.f5 = true <;> by_cases h2 : x.f2 = 0 <;> simp [h, h2]
theorem inter_val (x y : S24) : interB x y = (liveB x && liveB y && (decide (x.f0 = y.f0) || decide (x.f3 = y.f3) && (!readsC x.f2 || !readsC y.f2))) := by
  unfold interB
  rw [keysOf_eq x, keysOf_eq y]
  cases liveB x <;> cases liveB y <;> simp [meetB]
theorem inter_comm (x y : S24) : interB x y = interB y x := by
  rw [inter_val, inter_val, show decide (x.f0 = y.f0) = decide (y.f0 = x.f0) from decide_eq_decide.2 ⟨Eq.symm, Eq.symm⟩, show decide (x.f3 = y.f3) = decide (y.f3 = x.f3) from decide_eq_decide.2 ⟨Eq.symm, Eq.symm⟩]
  cases liveB x <;> cases liveB y <;> cases readsC x.f2 <;> cases readsC y.f2 <;> rfl
theorem inter_self (x : S24) : interB x x = liveB x := by
  rw [inter_val]; cases liveB x <;> simp
end Go.Proofs.Ytgenfbpaooeofaa.P
