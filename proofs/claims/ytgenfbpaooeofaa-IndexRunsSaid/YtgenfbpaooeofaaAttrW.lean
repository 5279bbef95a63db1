/- What the printed functions of layer 6 that tell whether one is within another, or the same (the program's and the document's), come to, as plain statements on lists of numbers; a list's length is at most 2^62. -/
import Derived.Test.YtgenfbpaooeofaaPx0
import Derived.Test.YtgenfbpaooeofaaPx4
import Derived.Test.YtgenfbpaooeofaaPx9
import Derived.Test.YtgenfbpaooeofaaPx10
import Derived.Test.YtgenfbpaooeofaaAttrD
namespace Go.Proofs.Ytgenfbpaooeofaa.P
open Go.RowKit Go.Proofs.YtgenfbpaooeofaaW.PrintWords Go.Proofs.YtgenfbpaooeofaaW.PrintLast Go.Proofs.YtgenfbpaooeofaaW.PrintMore
set_option linter.unusedVariables false
/-- no dep of the one is above that of the other -/
def wl (a b : List Int) : Bool := (List.range (max a.length b.length)).all (fun i => decide (a.getD i 0 ≤ b.getD i 0))
def wi (s : Int) (a : List Int) (t : Int) (b : List Int) : Bool := wl a b && decide (s ≤ t)
def sm (s : Int) (a : List Int) (t : Int) (b : List Int) : Bool := wi s a t b && wi t b s a
theorem wl_iff (a b : List Int) : wl a b = true ↔ ∀ i, a.getD i 0 ≤ b.getD i 0 := by
  unfold wl
  rw [List.all_eq_true]
  constructor
  · intro h i
    rcases Nat.lt_or_ge i (max a.length b.length) with hi | hi
    · simpa using h i (List.mem_range.2 hi)
    · rw [List.getD_eq_getElem?_getD, List.getD_eq_getElem?_getD, List.getElem?_eq_none (by omega), List.getElem?_eq_none (by omega)]; simp
  · intro h i _
    simpa using h i
theorem wi_iff (s : Int) (a : List Int) (t : Int) (b : List Int) : wi s a t b = true ↔ (∀ i, a.getD i 0 ≤ b.getD i 0) ∧ s ≤ t := by
  unfold wi; rw [Bool.and_eq_true, wl_iff, decide_eq_true_iff]
theorem wi_refl (s : Int) (a : List Int) : wi s a s a = true := (wi_iff ..).2 ⟨fun _ => Int.le_refl _, Int.le_refl _⟩
theorem wi_trans {s t u : Int} {a b c : List Int} (h : wi s a t b = true) (k : wi t b u c = true) : wi s a u c = true := by
  rw [wi_iff] at *
  exact ⟨fun i => Int.le_trans (h.1 i) (k.1 i), Int.le_trans h.2 k.2⟩
theorem sm_iff (s : Int) (a : List Int) (t : Int) (b : List Int) : sm s a t b = true ↔ (∀ i, a.getD i 0 = b.getD i 0) ∧ s = t := by
  unfold sm; rw [Bool.and_eq_true, wi_iff, wi_iff]
  constructor
  · rintro ⟨⟨h1, h2⟩, h3, h4⟩
    exact ⟨fun i => Int.le_antisymm (h1 i) (h3 i), Int.le_antisymm h2 h4⟩
  · rintro ⟨h1, h2⟩
    exact ⟨⟨fun i => by rw [h1]; exact Int.le_refl _, by omega⟩, fun i => by rw [h1]; exact Int.le_refl _, by omega⟩
theorem sm_refl (s : Int) (a : List Int) : sm s a s a = true := (sm_iff ..).2 ⟨fun _ => rfl, rfl⟩
theorem sm_comm (s : Int) (a : List Int) (t : Int) (b : List Int) : sm s a t b = sm t b s a := by unfold sm; rw [Bool.and_comm]
theorem attr_Within.eq (s : Int) (a : List Int) (t : Int) (b : List Int) : attr_Within.f s a t b = some (wi s a t b) := rfl
theorem attr_Same.eq (s : Int) (a : List Int) (t : Int) (b : List Int) : attr_Same.f s a t b = some (sm s a t b) := by unfold attr_Same.f sm; rw [attr_Within.eq, attr_Within.eq]; cases wi s a t b <;> simp
theorem ref_Within.l0_ev (s : Int) (a : List Int) (t : Int) (b : List Int) (ha : a.length ≤ 4611686018427387904) (hb : b.length ≤ 4611686018427387904) : ∀ (d i : Nat), i + d = max a.length b.length →
    Ev (fun k => colloquyref06_Within.l0 k ((i : Int) + 1) s a t b) ((List.range' i d).all (fun j => decide (a.getD j 0 ≤ b.getD j 0))) := by
  intro d
  induction d with
  | zero =>
    intro i hi
    refine Ev.step (f := fun k => colloquyref06_Within.j1 k ((i : Int) + 1) false s a t b) (fun k => ?_) (Ev.step (f := fun _ => some true) (fun k => ?_) ?_)
    · simp only [colloquyref06_Within.l0]; rw [if_neg (by omega), decide_eq_false (by omega)]
    · simp only [colloquyref06_Within.j1]; simp
    · simp only [List.range'_zero, List.all_nil]; exact Ev.now _
  | succ d ih =>
    intro i hi
    refine Ev.step (f := fun k => colloquyref06_Within.j1 k ((i : Int) + 1) true s a t b) (fun k => ?_) ?_
    · simp only [colloquyref06_Within.l0]
      by_cases h : (i : Int) + 1 ≤ (a.length : Int)
      · rw [if_pos h]
      · rw [if_neg h, decide_eq_true (by omega)]
    rw [List.range'_succ, List.all_cons]
    by_cases h : a.getD i 0 ≤ b.getD i 0
    · refine Ev.step (f := fun k => colloquyref06_Within.l0 k (((i + 1 : Nat) : Int) + 1) s a t b) (fun k => ?_) ?_
      · simp only [colloquyref06_Within.j1]
        rw [if_pos trivial, ref_Dep.eq _ _ (by omega) _ (by omega), ref_Dep.eq _ _ (by omega) _ (by omega)]
        simp only [Option.bind_some]
        rw [if_neg (by omega), show wrap64 ((i : Int) + 1 + 1) = ((i + 1 : Nat) : Int) + 1 by unfold wrap64; omega]
      · rw [decide_eq_true h, Bool.true_and]; exact ih (i + 1) (by omega)
    · refine Ev.step (f := fun _ => some false) (fun k => ?_) ?_
      · simp only [colloquyref06_Within.j1]
        rw [if_pos trivial, ref_Dep.eq _ _ (by omega) _ (by omega), ref_Dep.eq _ _ (by omega) _ (by omega)]
        simp only [Option.bind_some]
        rw [if_pos (by omega)]
      · rw [decide_eq_false h, Bool.false_and]; exact Ev.now _
theorem ref_Within.ev (s : Int) (a : List Int) (t : Int) (b : List Int) (ha : a.length ≤ 4611686018427387904) (hb : b.length ≤ 4611686018427387904) : Ev (fun k => colloquyref06_Within.f k s a t b) (wi s a t b) := by
  unfold wi colloquyref06_Within.f
  by_cases h : s > t
  · simp only [if_pos h, decide_eq_false (show ¬ s ≤ t by omega), Bool.and_false]; exact Ev.now _
  · simp only [if_neg h, decide_eq_true (show s ≤ t by omega), Bool.and_true]
    have := ref_Within.l0_ev s a t b ha hb (max a.length b.length) 0 (by omega)
    unfold wl
    rw [List.range_eq_range']
    simpa using this
theorem ref_Same.ev (s : Int) (a : List Int) (t : Int) (b : List Int) (ha : a.length ≤ 4611686018427387904) (hb : b.length ≤ 4611686018427387904) : Ev (fun k => colloquyref06_Same.f k s a t b) (sm s a t b) := by
  unfold colloquyref06_Same.f
  refine Ev.bind (f := fun n x => (colloquyref06_Within.f n t b s a).bind fun t217 => if x = true then some t217 else some false) (ref_Within.ev s a t b ha hb) ?_
  refine Ev.bind (f := fun _ y => if wi s a t b = true then some y else some false) (ref_Within.ev t b s a hb ha) ?_
  unfold sm
  cases wi s a t b <;> simp <;> exact Ev.now _
end Go.Proofs.Ytgenfbpaooeofaa.P
