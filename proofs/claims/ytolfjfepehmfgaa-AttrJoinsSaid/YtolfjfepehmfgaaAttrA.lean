/- The chapter's example, as the law's first call asks it, is answered true; whether an attribute has few deps. -/
import Derived.Test.YtolfjfepehmfgaaPx0
import Derived.Test.YtolfjfepehmfgaaPx1
import Derived.Test.YtolfjfepehmfgaaAttrM
import Derived.Test.YtolfjfepehmfgaaAttrWt
namespace Go.Proofs.Ytolfjfepehmfgaa.P
open Go.RowKit Go.Proofs.YtolfjfepehmfgaaW.PrintWords Go.Proofs.YtolfjfepehmfgaaW.PrintLast Go.Proofs.YtolfjfepehmfgaaW.PrintMore
set_option linter.unusedVariables false
theorem awake_ev : Ev (fun k => colloquylaw06_awake.f k) true := by
  unfold colloquylaw06_awake.f
  have h := attr_Merge.ev [(⟨2, ([1, 0, 3] : List Int)⟩ : S27), (⟨1, ([0, 5] : List Int)⟩ : S27)] (by decide) (by simp)
  rw [show mg [(⟨2, ([1, 0, 3] : List Int)⟩ : S27), (⟨1, ([0, 5] : List Int)⟩ : S27)] = (2, [1, 5, 3]) by decide] at h
  refine Ev.bind (f := fun _ bt => if bt.1 = 2 then (if (bt.2.length : Int) = 3 then (if 1 < (bt.2.length : Int) then (if (rd bt.2 1) = 5 then ((attr_Waits.f bt.1 bt.2 2 4).bind fun t => some t) else some false) else none) else some false) else some false) h ?_
  exact Ev.congr (f := fun _ => some true) (fun k => by decide +kernel) (Ev.now _)
end Go.Proofs.Ytolfjfepehmfgaa.P
