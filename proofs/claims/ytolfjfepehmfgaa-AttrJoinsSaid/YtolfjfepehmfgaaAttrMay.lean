/- Whether an attribute may be, by the program and by the document, is one plain statement on lists of numbers; a list's length is at most 2^63 - 2. -/
import Derived.Test.YtolfjfepehmfgaaPx0
import Derived.Test.YtolfjfepehmfgaaPx7
namespace Go.Proofs.Ytolfjfepehmfgaa.P
open Go.RowKit Go.Proofs.YtolfjfepehmfgaaW.PrintWords Go.Proofs.YtolfjfepehmfgaaW.PrintLast Go.Proofs.YtolfjfepehmfgaaW.PrintMore
set_option linter.unusedVariables false
/-- whether an attribute may be -/
def okL (l : List Int) : Bool := l.all (fun d => decide (0 ≤ d) && decide (d ≤ 1048576))
def mayA (s : Int) (l : List Int) (n : Int) : Bool := okL l && (decide (1 ≤ n) && decide (n ≤ 7) && decide ((l.length : Int) = n) && (decide (0 ≤ s) && decide (s ≤ 1073741824)))
theorem mayA_iff (s : Int) (l : List Int) (n : Int) : mayA s l n = true ↔ (∀ d, d ∈ l → 0 ≤ d ∧ d ≤ 1048576) ∧ 1 ≤ n ∧ n ≤ 7 ∧ (l.length : Int) = n ∧ 0 ≤ s ∧ s ≤ 1073741824 := by
  unfold mayA okL; simp [and_assoc]
theorem between_eq (d m : Int) : attr_between.f d m = some (decide (0 ≤ d) && decide (d ≤ m)) := by
  unfold attr_between.f; by_cases h : 0 ≤ d <;> simp [h]
theorem attr_May.ev (s : Int) (l : List Int) (n : Int) (hl : l.length ≤ 9223372036854775807) : Ev (fun k => attr_May.f k s l n) (mayA s l n) := by
  have key : ∀ (d i : Nat), i + d = l.length → Ev (fun k => attr_May.l0 k n l (l.length : Int) (i : Int) s l) (okL (l.drop i) && (decide (1 ≤ n) && decide (n ≤ 7) && decide ((l.length : Int) = n) && (decide (0 ≤ s) && decide (s ≤ 1073741824)))) := by
    intro d
    induction d with
    | zero =>
      intro i hi
      refine Ev.step (f := fun _ => some ((decide (1 ≤ n) && decide (n ≤ 7) && decide ((l.length : Int) = n) && (decide (0 ≤ s) && decide (s ≤ 1073741824))))) (fun k => ?_) ?_
      · simp only [attr_May.l0, between_eq]
        rw [if_neg (by omega)]
        by_cases h1 : 1 ≤ n <;> by_cases h2 : n ≤ 7 <;> by_cases h3 : (l.length : Int) = n <;> simp [h1, h2, h3]
      · rw [List.drop_of_length_le (by omega)]; simp only [okL, List.all_nil, Bool.true_and]; exact Ev.now _
    | succ d ih =>
      intro i hi
      have hi' : i < l.length := by omega
      rw [List.drop_eq_getElem_cons hi']
      by_cases h : 0 ≤ l[i] ∧ l[i] ≤ 1048576
      · refine Ev.step (f := fun k => attr_May.l0 k n l (l.length : Int) ((i + 1 : Nat) : Int) s l) (fun k => ?_) ?_
        · simp only [attr_May.l0, between_eq]
          rw [if_pos (by omega), if_pos (by omega), show rd l (i : Int) = l[i] by simp [rd, List.getD_eq_getElem?_getD, List.getElem?_eq_getElem hi'], show wrap64 ((i : Int) + 1) = ((i + 1 : Nat) : Int) by unfold wrap64; omega]
          simp [h.1, h.2]
          omega
        · have := ih (i + 1) (by omega)
          simpa only [okL, List.all_cons, decide_eq_true h.1, decide_eq_true h.2, Bool.true_and] using this
      · refine Ev.step (f := fun _ => some false) (fun k => ?_) ?_
        · simp only [attr_May.l0, between_eq]
          rw [if_pos (by omega), if_pos (by omega), if_pos (by omega), show rd l (i : Int) = l[i] by simp [rd, List.getD_eq_getElem?_getD, List.getElem?_eq_getElem hi']]
          by_cases h0 : 0 ≤ l[i]
          · have h1 : ¬ l[i] ≤ 1048576 := fun h1 => h ⟨h0, h1⟩
            simp [h0, h1]
          · simp [h0]
        · have e : okL (l[i] :: l.drop (i + 1)) = false := by
            simp only [okL, List.all_cons]
            by_cases h0 : 0 ≤ l[i]
            · have h1 : ¬ l[i] ≤ 1048576 := fun h1 => h ⟨h0, h1⟩
              simp [h0, h1]
            · simp [h0]
          rw [e, Bool.false_and]; exact Ev.now _
  have := key l.length 0 (by omega)
  unfold attr_May.f mayA
  simpa using this
theorem ref_May.ev (s : Int) (l : List Int) (n : Int) : Ev (fun k => colloquyref06_May.f k s l n) (mayA s l n) := by
  have out : mayA s l n = false → Ev (fun k => colloquyref06_May.j0 k n true s l) (mayA s l n) := by
    intro h
    refine Ev.step (f := fun _ => some false) (fun k => ?_) ?_
    · simp only [colloquyref06_May.j0]; simp
    · rw [h]; exact Ev.now _
  have no : ∀ P : Prop, (mayA s l n = true → P) → ¬ P → mayA s l n = false := fun P h1 h2 => by
    cases h : mayA s l n with
    | false => rfl
    | true => exact absurd (h1 h) h2
  unfold colloquyref06_May.f
  by_cases h1 : n < 1
  · simp only [if_pos h1]; exact out (no _ (fun h => ((mayA_iff ..).1 h).2.1) (by omega))
  by_cases h2 : n > 7
  · simp only [if_neg h1, if_pos h2]; exact out (no _ (fun h => ((mayA_iff ..).1 h).2.2.1) (by omega))
  by_cases h3 : (l.length : Int) = n
  · by_cases h4 : s < 0
    · simp only [if_neg h1, if_neg h2, if_pos h3, if_pos h4]; exact out (no _ (fun h => ((mayA_iff ..).1 h).2.2.2.2.1) (by omega))
    by_cases h5 : s > 1073741824
    · simp only [if_neg h1, if_neg h2, if_pos h3, if_neg h4, decide_eq_true h5]; exact out (no _ (fun h => ((mayA_iff ..).1 h).2.2.2.2.2) (by omega))
    simp only [if_neg h1, if_neg h2, if_pos h3, if_neg h4, decide_eq_false h5]
    have key : ∀ (d i : Nat), i + d = l.length → Ev (fun k => colloquyref06_May.l0 k n (i : Int) s l) (okL (l.drop i)) := by
      intro d
      induction d with
      | zero =>
        intro i hi
        refine Ev.step (f := fun _ => some true) (fun k => ?_) ?_
        · simp only [colloquyref06_May.l0]; rw [if_neg (by omega)]
        · rw [List.drop_of_length_le (by omega)]; exact Ev.now _
      | succ d ih =>
        intro i hi
        have hi' : i < l.length := by omega
        have er : rd l (i : Int) = l[i] := by simp [rd, List.getD_eq_getElem?_getD, List.getElem?_eq_getElem hi']
        rw [List.drop_eq_getElem_cons hi']
        by_cases h0 : l[i] < 0
        · refine Ev.step (f := fun _ => some false) (fun k => ?_) ?_
          · simp only [colloquyref06_May.l0]
            rw [if_pos (by omega), if_pos (by omega), if_pos (by omega), er, if_pos h0]
          · simp only [okL, List.all_cons, decide_eq_false (show ¬ 0 ≤ l[i] by omega), Bool.false_and]; exact Ev.now _
        by_cases h9 : l[i] > 1048576
        · refine Ev.step (f := fun _ => some false) (fun k => ?_) ?_
          · simp only [colloquyref06_May.l0]
            rw [if_pos (by omega), if_pos (by omega), if_pos (by omega), er, if_neg h0, if_pos h9]
          · simp only [okL, List.all_cons, decide_eq_false (show ¬ l[i] ≤ 1048576 by omega), Bool.and_false, Bool.false_and]; exact Ev.now _
        refine Ev.step (f := fun k => colloquyref06_May.l0 k n ((i + 1 : Nat) : Int) s l) (fun k => ?_) ?_
        · simp only [colloquyref06_May.l0]
          rw [if_pos (by omega), if_pos (by omega), if_pos (by omega), er, if_neg h0, if_neg h9, show wrap64 ((i : Int) + 1) = ((i + 1 : Nat) : Int) by unfold wrap64; omega]
        · have := ih (i + 1) (by omega)
          simpa only [okL, List.all_cons, decide_eq_true (show 0 ≤ l[i] by omega), decide_eq_true (show l[i] ≤ 1048576 by omega), Bool.true_and] using this
    have := key l.length 0 (by omega)
    refine Ev.step (f := fun k => colloquyref06_May.l0 k n 0 s l) (fun k => ?_) ?_
    · simp only [colloquyref06_May.j0]; simp
    · have e : mayA s l n = okL l := by
        unfold mayA
        rw [decide_eq_true (show 1 ≤ n by omega), decide_eq_true (show n ≤ 7 by omega), decide_eq_true h3, decide_eq_true (show 0 ≤ s by omega), decide_eq_true (show s ≤ 1073741824 by omega)]; simp
      rw [e]; simpa using this
  · simp only [if_neg h1, if_neg h2, if_neg h3]; exact out (no _ (fun h => ((mayA_iff ..).1 h).2.2.2.1) h3)
end Go.Proofs.Ytolfjfepehmfgaa.P
