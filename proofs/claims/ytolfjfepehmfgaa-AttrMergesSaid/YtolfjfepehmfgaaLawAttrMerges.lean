/- The plain side of the law AttrMerges: the printed law answers true, at all lists and numbers of their kind. -/
import Derived.Test.YtolfjfepehmfgaaPx0
import Derived.Test.YtolfjfepehmfgaaPx1
import Derived.Test.YtolfjfepehmfgaaPx3
import Derived.Test.YtolfjfepehmfgaaAttrA
namespace Go.Proofs.Ytolfjfepehmfgaa.P
open Go.RowKit Go.Proofs.YtolfjfepehmfgaaW.PrintWords Go.Proofs.YtolfjfepehmfgaaW.PrintLast Go.Proofs.YtolfjfepehmfgaaW.PrintMore
set_option linter.unusedVariables false
theorem AttrMerges.pure (l : List S27) (hl : l.length ≤ 9223372036854775807) : ∃ k, colloquylaw06_AttrMerges.f k l = some true := by
  refine Ev.rounds ?_
  unfold colloquylaw06_AttrMerges.f
  refine Ev.bind (f := fun k t => if t = true then colloquylaw06_AttrMerges.j0 k l t (decide ((l.length : Int) > 20)) else colloquylaw06_AttrMerges.j0 k l t true) awake_ev ?_
  simp only [if_true]
  by_cases h20 : (l.length : Int) > 20
  · refine Ev.step (f := fun _ => some true) (fun k => ?_) (Ev.now _)
    simp only [colloquylaw06_AttrMerges.j0, decide_eq_true h20]; rfl
  refine Ev.step (f := fun k => colloquylaw06_AttrMerges.l0 k l 0) (fun k => ?_) ?_
  · simp only [colloquylaw06_AttrMerges.j0, decide_eq_false h20]; rfl
  have key : ∀ (d i : Nat), i + d = l.length → (∀ a, a ∈ l.take i → a.f1.length ≤ 50) → Ev (fun k => colloquylaw06_AttrMerges.l0 k l (i : Int)) true := by
    intro d
    induction d with
    | zero =>
      intro i hi hf
      have hf' : ∀ a, a ∈ l → a.f1.length ≤ 1000000 := fun a ha => by have := hf a (by rw [List.take_of_length_le (by omega)]; exact ha); omega
      refine Ev.step (f := fun k => (attr_Merge.f k l).bind fun bt162 => ((colloquyref06_All.f k l).bind fun bt167 => ((colloquyref01_Same.f k bt162.2 bt167.2).bind fun t172 => (if t172 = true then (some (bt162.1 == bt167.1)) else (some false))))) (fun k => ?_) ?_
      · simp only [colloquylaw06_AttrMerges.l0]; rw [if_neg (by omega)]
      refine Ev.bind (f := fun k bt162 => (colloquyref06_All.f k l).bind fun bt167 => ((colloquyref01_Same.f k bt162.2 bt167.2).bind fun t172 => (if t172 = true then (some (bt162.1 == bt167.1)) else (some false)))) (attr_Merge.ev l (by omega) hf') ?_
      refine Ev.bind (f := fun k bt167 => (colloquyref01_Same.f k (mg l).2 bt167.2).bind fun t172 => (if t172 = true then (some ((mg l).1 == bt167.1)) else (some false))) (ref_All.ev l (by omega) hf') ?_
      have hlen : (mg l).2.length ≤ 1000000 := by
        have key : ∀ (l : List S27) (m : Int × List Int), (∀ a, a ∈ l → a.f1.length ≤ 1000000) → m.2.length ≤ 1000000 → (l.foldl mg1 m).2.length ≤ 1000000 := by
          intro l
          induction l with
          | nil => intro m _ h; exact h
          | cons a l ih => intro m h hm; exact ih _ (fun b hb => h b (by simp [hb])) (by have := h a (by simp); simp only [mg1, mxl_length]; omega)
        exact key l _ hf' (by simp)
      refine Ev.bind (f := fun k t172 => if t172 = true then (some ((mg l).1 == (mg l).1)) else (some false)) (ref01_Same.refl_ev _ hlen) ?_
      simp only [if_true, beq_self_eq_true]; exact Ev.now _
    | succ d ih =>
      intro i hi hf
      have hi' : i < l.length := by omega
      by_cases h : l[i].f1.length ≤ 50
      · refine Ev.step (f := fun k => colloquylaw06_AttrMerges.l0 k l ((i + 1 : Nat) : Int)) (fun k => ?_) (ih (i + 1) (by omega) ?_)
        · simp only [colloquylaw06_AttrMerges.l0, few_eq, Option.bind_some]
          rw [if_pos (by omega), if_pos (by omega), rd_T_at l i hi', if_pos (decide_eq_true (by omega)), show wrap64 ((i : Int) + 1) = ((i + 1 : Nat) : Int) by unfold wrap64; omega]
        · intro a ha
          rw [List.take_succ_eq_append_getElem hi', List.mem_append, List.mem_singleton] at ha
          rcases ha with ha | rfl
          · exact hf a ha
          · exact h
      · refine Ev.step (f := fun _ => some true) (fun k => ?_) (Ev.now _)
        simp only [colloquylaw06_AttrMerges.l0, few_eq, Option.bind_some]
        rw [if_pos (by omega), if_pos (by omega), rd_T_at l i hi', if_neg (fun e => absurd (of_decide_eq_true e) (by omega))]
  exact key l.length 0 (by omega) (by simp)

end Go.Proofs.Ytolfjfepehmfgaa.P
