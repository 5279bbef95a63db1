/- The plain side of the law AttrWaits: the printed law answers true, at all lists and numbers of their kind. -/
import Derived.Test.YtolfjfepehmfgaaPx0
import Derived.Test.YtolfjfepehmfgaaPx1
import Derived.Test.YtolfjfepehmfgaaPx4
import Derived.Test.YtolfjfepehmfgaaAttrA
import Derived.Test.YtolfjfepehmfgaaAttrW
namespace Go.Proofs.Ytolfjfepehmfgaa.P
open Go.RowKit Go.Proofs.YtolfjfepehmfgaaW.PrintWords Go.Proofs.YtolfjfepehmfgaaW.PrintLast Go.Proofs.YtolfjfepehmfgaaW.PrintMore
set_option linter.unusedVariables false
theorem AttrWaits.pure (a0 : Int) (l0 : List Int) (a1 : Int) (l1 : List Int) (a2 a3 a4 : Int) (h0 : l0.length ≤ 9223372036854775807) (h1 : l1.length ≤ 9223372036854775807) (hw : a2 ≤ 9223372036854775807) :
    ∃ k, colloquylaw06_AttrWaits.f k a0 l0 a1 l1 a2 a3 a4 = some true := by
  obtain ⟨K, hK⟩ := awake_ev
  replace hK : ∀ k, K ≤ k → colloquylaw06_awake.f k = some true := hK
  refine ⟨K + 5, ?_⟩
  unfold colloquylaw06_AttrWaits.f
  rw [hK _ (by omega)]
  have ew : ∀ x (l : List Int) j, l.length ≤ 9223372036854775807 → attr_Waits.f x l a2 j = some (wt l a2 j) := fun x l j hl => attr_Waits.eq x l hl a2 j hw
  simp only [few_eq, Option.bind_some, if_true, ew a0 l0 a3 h0]
  have out : ∀ k, colloquylaw06_AttrWaits.j0 (k + 1) a4 true true a0 l0 a1 l1 a2 a3 = some true := fun k => by simp only [colloquylaw06_AttrWaits.j0]; rfl
  have mono : ∀ i, l0.getD i 0 ≤ l1.getD i 0 → True := fun _ _ => trivial
  have last : ∀ k, wt l0 a2 a3 = true → colloquylaw06_AttrWaits.j1 (k + 1) false a0 l0 a1 l1 a2 a3 = some true := by
    intro k h
    simp only [colloquylaw06_AttrWaits.j1, attr_Within.eq, ew a1 l1 a3 h1, Option.bind_some]
    rw [if_neg (by simp)]
    cases hx : wi a0 l0 a1 l1 with
    | false => simp
    | true =>
      rw [if_pos rfl]
      have hx' := ((wi_iff ..).1 hx).1
      unfold wt at h ⊢
      simp only [Bool.and_eq_true, decide_eq_true_iff] at h
      have : a3 ≤ depOf l1 a2 := by
        have h2 := h.2
        unfold depOf at h2 ⊢
        split
        · rename_i hb; rw [if_pos hb] at h2; exact h2
        · rename_i hb; rw [if_neg hb] at h2; exact Int.le_trans h2 (hx' _)
      simp [h.1, this]
  have main : ∀ k, wt l0 a2 a3 = true → colloquylaw06_AttrWaits.j0 (k + 1 + 1) a4 true false a0 l0 a1 l1 a2 a3 = some true := by
    intro k h
    simp only [colloquylaw06_AttrWaits.j0, ew a0 l0 a4 h0, Option.bind_some]
    rw [if_neg (by simp)]
    by_cases hb : a4 ≥ 1
    · rw [if_pos hb]
      by_cases hc : a4 ≤ a3
      · rw [if_pos hc]
        have : wt l0 a2 a4 = true := by
          unfold wt at h ⊢
          simp only [Bool.and_eq_true, decide_eq_true_iff] at h ⊢
          omega
        rw [this]; exact last k h
      · rw [if_neg hc]; exact last k h
    · rw [if_neg hb]; exact last k h
  split
  · split
    · cases hx : wt l0 a2 a3 with
      | false => exact out _
      | true => exact main _ hx
    · exact out _
  · exact out _

end Go.Proofs.Ytolfjfepehmfgaa.P
