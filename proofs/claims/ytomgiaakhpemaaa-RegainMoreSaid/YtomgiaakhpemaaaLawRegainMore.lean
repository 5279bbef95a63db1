/- Plain facts for the laws of layer 10 (regain): which reports count, what is chosen; no condition but each one's own. -/
import Derived.Test.YtomgiaakhpemaaaPx0
import Derived.Test.YtomgiaakhpemaaaPx3
import Derived.Test.YtomgiaakhpemaaaPx7
import Derived.Test.YtomgiaakhpemaaaPx8
import Derived.Test.YtomgiaakhpemaaaPx10
import Derived.Test.YtomgiaakhpemaaaPx15
import Derived.Test.YtomgiaakhpemaaaPx17
import Derived.Test.YtomgiaakhpemaaaReg
import Derived.Test.YtomgiaakhpemaaaAttrW
namespace Go.Proofs.Ytomgiaakhpemaaa.P
open Go.RowKit Go.Proofs.YtomgiaakhpemaaaW.PrintWords Go.Proofs.YtomgiaakhpemaaaW.PrintLast Go.Proofs.YtomgiaakhpemaaaW.PrintMore
set_option linter.unusedVariables false
set_option linter.unusedSimpArgs false
theorem fast_eqM (n o : Int) (l : List S35) : regain_Fast.f n o l = some (decide (((countP n l).length : Int) = manyP n) && sameAll o (countP n l)) := by
  unfold regain_Fast.f
  rw [show regain_collected.f n l = some (countP n l) from rfl, show regain_bound.f n = some (manyP n : Int) from by
    unfold regain_bound.f manyP
    congr 1
    have : 0 ≤ mn (mx n 1) 7 := by unfold mn mx; omega
    omega]
  simp only [Option.bind_some]
  by_cases h : ((countP n l).length : Int) = (manyP n : Int)
  · rw [if_pos h, decide_eq_true h, Bool.true_and]; rfl
  · rw [if_neg h, decide_eq_false h, Bool.false_and]
theorem choose_shortM (n o : Int) {c : List S35} (h : ∀ x ∈ c, x.f1.f4.f1.length ≤ 17592186044416) : (chooseP n o c).2.2.2.2.2.2.2.2.length ≤ 17592186044416 := by
  have key : ∀ (d i : Nat), (fromP n o c d i).2.2.2.2.2.2.2.2.length ≤ 17592186044416 := by
    intro d
    induction d with
    | zero => intro i; exact Nat.zero_le _
    | succ d ih =>
      intro i
      unfold fromP
      split
      · exact short_try h i
      · exact ih (i + 1)
  exact key 5 0
theorem same_self (t : CT) (h : t.2.2.2.2.2.2.2.2.length ≤ 4611686018427387904) : Ev (fun k => colloquyref10_Same.f k t.1 t.2.1 t.2.2.1 t.2.2.2.1 t.2.2.2.2.1 t.2.2.2.2.2.1 t.2.2.2.2.2.2.1 t.2.2.2.2.2.2.2.1 t.2.2.2.2.2.2.2.2 t.1 t.2.1 t.2.2.1 t.2.2.2.1 t.2.2.2.2.1 t.2.2.2.2.2.1 t.2.2.2.2.2.2.1 t.2.2.2.2.2.2.2.1 t.2.2.2.2.2.2.2.2) true := by
  unfold colloquyref10_Same.f
  refine Ev.bind (f := fun _ q => if q = true then (if t.1 = t.1 then some (t.2.1 == t.2.1 && (t.2.2.1 == t.2.2.1 && (t.2.2.2.1 == t.2.2.2.1 && (t.2.2.2.2.1 == t.2.2.2.2.1 && (t.2.2.2.2.2.1 == t.2.2.2.2.2.1 && (t.2.2.2.2.2.2.1.toList == t.2.2.2.2.2.2.1.toList)))))) else some false) else some false) (ref_Same.ev _ _ _ _ h h) ?_
  rw [sm_refl]
  simp only [if_true, beq_self_eq_true, Bool.and_self]
  exact Ev.now _
theorem filterMap_same {f g : Nat → Option S35} : ∀ (L : List Nat), (∀ k ∈ L, f k = g k) → L.filterMap f = L.filterMap g := by
  intro L
  induction L with
  | nil => intro _; rfl
  | cons a L ih =>
    intro h
    rw [List.filterMap_cons, List.filterMap_cons, h a (List.mem_cons_self), ih fun k hk => h k (List.mem_cons_of_mem _ hk)]
/-- reports behind, of those that tell already, and one ahead, of nobody: none counts -/
theorem count_more (n : Int) (l : List S35) (far : S35) (hf : ¬ (1 ≤ far.f0 ∧ far.f0 ≤ 7)) : countP n (far :: l ++ l.map fun x => ⟨x.f0, far.f1⟩) = countP n l := by
  rw [count_eq, count_eq]
  have hm := manyP_bd n
  refine filterMap_same _ fun k hk => ?_
  have hk := List.mem_range.1 hk
  rw [List.cons_append, firstR_cons, if_neg (by omega)]
  unfold firstR
  rw [List.find?_append]
  cases h : l.find? (fun x => x.f0 == (k : Int) + 1) with
  | some x => rfl
  | none =>
    rw [Option.none_or, List.find?_eq_none]
    intro y hy
    obtain ⟨x, hx, rfl⟩ := List.mem_map.1 hy
    exact List.find?_eq_none.1 h x hx
/-- the law's end, behind the loop -/
theorem more_end (n o : Int) (l m : List S35) (hl : ∀ x ∈ l, x.f1.f4.f1.length ≤ 17592186044416) (hm : ∀ x ∈ m, x.f1.f4.f1.length ≤ 17592186044416) (hc : countP n m = countP n l) :
    Ev (fun k => (regain_Decide.f n o l).bind fun bt385 => ((regain_Decide.f n o m).bind fun bt396 => ((colloquyref10_Same.f k bt385.1 bt385.2.1 bt385.2.2.1 bt385.2.2.2.1 bt385.2.2.2.2.1 bt385.2.2.2.2.2.1 bt385.2.2.2.2.2.2.1 bt385.2.2.2.2.2.2.2.1 bt385.2.2.2.2.2.2.2.2 bt396.1 bt396.2.1 bt396.2.2.1 bt396.2.2.2.1 bt396.2.2.2.2.1 bt396.2.2.2.2.2.1 bt396.2.2.2.2.2.2.1 bt396.2.2.2.2.2.2.2.1 bt396.2.2.2.2.2.2.2.2).bind fun t407 => (if t407 = true then ((regain_Fast.f n o l).bind fun t408 => ((regain_Fast.f n o m).bind fun t409 => (some (t408 == t409)))) else (some false))))) true := by
  have hsh := choose_shortM n o (c := countP n l) fun x hx => hl x (count_mem hx).1
  rw [Decide_some n o l hl, Decide_some n o m hm, fast_eqM, fast_eqM, hc]
  simp only [Option.bind_some]
  generalize chooseP n o (countP n l) = t at hsh ⊢
  refine Ev.bind (f := fun _ t407 => (if t407 = true then some ((decide (((countP n l).length : Int) = manyP n) && sameAll o (countP n l)) == (decide (((countP n l).length : Int) = manyP n) && sameAll o (countP n l))) else (some false))) (same_self t (Nat.le_trans hsh (by decide))) ?_
  simp only [if_true, beq_self_eq_true]
  exact Ev.now _
theorem more_l0 (n o : Int) (l : List S35) (hl : l.length ≤ 40) (far : S35) (r : Bool) : ∀ (q i : Nat) (acc : List S35), l.length - i ≤ q → i ≤ l.length → acc.length ≤ 100 + i →
    Ev (fun k => (regain_Decide.f n o l).bind fun bt385 => ((regain_Decide.f n o (acc ++ (l.drop i).map fun x => (⟨x.f0, far.f1⟩ : S35))).bind fun bt396 => ((colloquyref10_Same.f k bt385.1 bt385.2.1 bt385.2.2.1 bt385.2.2.2.1 bt385.2.2.2.2.1 bt385.2.2.2.2.2.1 bt385.2.2.2.2.2.2.1 bt385.2.2.2.2.2.2.2.1 bt385.2.2.2.2.2.2.2.2 bt396.1 bt396.2.1 bt396.2.2.1 bt396.2.2.2.1 bt396.2.2.2.2.1 bt396.2.2.2.2.2.1 bt396.2.2.2.2.2.2.1 bt396.2.2.2.2.2.2.2.1 bt396.2.2.2.2.2.2.2.2).bind fun t407 => (if t407 = true then ((regain_Fast.f n o l).bind fun t408 => ((regain_Fast.f n o (acc ++ (l.drop i).map fun x => (⟨x.f0, far.f1⟩ : S35))).bind fun t409 => (some (t408 == t409)))) else (some false))))) r →
    Ev (fun k => colloquylaw10_RegainMore.l0 k n o l acc (i : Int) far.f0 far.f1.f0 far.f1.f1.f0 far.f1.f1.f1 far.f1.f2.f0 far.f1.f2.f1 far.f1.f3.f0 far.f1.f3.f1 far.f1.f3.f2 far.f1.f3.f3 far.f1.f3.f4 far.f1.f3.f5 far.f1.f4.f0 far.f1.f4.f1) r := by
  intro q
  induction q with
  | zero =>
    intro i acc hd hi ha hE
    have : i = l.length := by omega
    subst this
    rw [List.drop_length, List.map_nil, List.append_nil] at hE
    refine Ev.step (fun k => ?_) hE
    simp only [colloquylaw10_RegainMore.l0]
    rw [if_neg (by omega)]
  | succ q ih =>
    intro i acc hd hi ha hE
    by_cases hlt : i < l.length
    · rw [drop_cons l i hlt, List.map_cons, List.append_cons] at hE
      have := ih (i + 1) _ (by omega) (by omega) (by rw [List.length_append, List.length_singleton]; omega) hE
      refine Ev.step (fun k => ?_) this
      simp only [colloquylaw10_RegainMore.l0]
      rw [if_pos (by omega), if_pos (by omega), if_pos (by omega), show wrap64 ((i : Int) + 1) = ((i + 1 : Nat) : Int) by unfold wrap64; omega]
    · have : i = l.length := by omega
      subst this
      rw [List.drop_length, List.map_nil, List.append_nil] at hE
      refine Ev.step (fun k => ?_) hE
      simp only [colloquylaw10_RegainMore.l0]
      rw [if_neg (by omega)]
theorem RegainMore.pure (n o : Int) (l : List S35) (far : S35) : ∃ k, colloquylaw10_RegainMore.f k n o l far.f0 far.f1.f0 far.f1.f1.f0 far.f1.f1.f1 far.f1.f2.f0 far.f1.f2.f1 far.f1.f3.f0 far.f1.f3.f1 far.f1.f3.f2 far.f1.f3.f3 far.f1.f3.f4 far.f1.f3.f5 far.f1.f4.f0 far.f1.f4.f1 = some true := by
  suffices h : Ev (fun k => colloquylaw10_RegainMore.f k n o l far.f0 far.f1.f0 far.f1.f1.f0 far.f1.f1.f1 far.f1.f2.f0 far.f1.f2.f1 far.f1.f3.f0 far.f1.f3.f1 far.f1.f3.f2 far.f1.f3.f3 far.f1.f3.f4 far.f1.f3.f5 far.f1.f4.f0 far.f1.f4.f1) true from h.rounds
  have out : Ev (fun k => colloquylaw10_RegainMore.j0 k n o l true true far.f0 far.f1.f0 far.f1.f1.f0 far.f1.f1.f1 far.f1.f2.f0 far.f1.f2.f1 far.f1.f3.f0 far.f1.f3.f1 far.f1.f3.f2 far.f1.f3.f3 far.f1.f3.f4 far.f1.f3.f5 far.f1.f4.f0 far.f1.f4.f1) true := Ev.step (f := fun _ => some true) (fun k => by simp only [colloquylaw10_RegainMore.j0]; rw [if_pos trivial]) (Ev.now _)
  unfold colloquylaw10_RegainMore.f
  rw [awake_true]
  simp only [Option.bind_some, if_true]
  obtain ⟨K, hK⟩ := few_ev l
  have hfew : ∀ k, K ≤ k → colloquylaw10_few.f k l = some (fewB l) := hK
  by_cases hf : fewB l = true
  rotate_left
  · obtain ⟨K2, h2⟩ := out
    refine ⟨K + K2, fun k hk => ?_⟩
    show (colloquylaw10_few.f k l).bind _ = _
    rw [hfew k (by omega)]
    simp only [Option.bind_some]
    rw [if_neg hf]
    exact h2 k (by omega)
  suffices hmain : Ev (fun k => (if (l.length : Int) > 30 then (colloquylaw10_RegainMore.j0 k n o l true true far.f0 far.f1.f0 far.f1.f1.f0 far.f1.f1.f1 far.f1.f2.f0 far.f1.f2.f1 far.f1.f3.f0 far.f1.f3.f1 far.f1.f3.f2 far.f1.f3.f3 far.f1.f3.f4 far.f1.f3.f5 far.f1.f4.f0 far.f1.f4.f1) else (if (far.f1.f4.f1.length : Int) > 50 then (colloquylaw10_RegainMore.j0 k n o l true true far.f0 far.f1.f0 far.f1.f1.f0 far.f1.f1.f1 far.f1.f2.f0 far.f1.f2.f1 far.f1.f3.f0 far.f1.f3.f1 far.f1.f3.f2 far.f1.f3.f3 far.f1.f3.f4 far.f1.f3.f5 far.f1.f4.f0 far.f1.f4.f1) else (if far.f0 ≥ 1 then (colloquylaw10_RegainMore.j0 k n o l true (decide (far.f0 ≤ 7)) far.f0 far.f1.f0 far.f1.f1.f0 far.f1.f1.f1 far.f1.f2.f0 far.f1.f2.f1 far.f1.f3.f0 far.f1.f3.f1 far.f1.f3.f2 far.f1.f3.f3 far.f1.f3.f4 far.f1.f3.f5 far.f1.f4.f0 far.f1.f4.f1) else (colloquylaw10_RegainMore.j0 k n o l true false far.f0 far.f1.f0 far.f1.f1.f0 far.f1.f1.f1 far.f1.f2.f0 far.f1.f2.f1 far.f1.f3.f0 far.f1.f3.f1 far.f1.f3.f2 far.f1.f3.f3 far.f1.f3.f4 far.f1.f3.f5 far.f1.f4.f0 far.f1.f4.f1))))) true by
    obtain ⟨K2, h2⟩ := hmain
    refine ⟨K + K2, fun k hk => ?_⟩
    show (colloquylaw10_few.f k l).bind _ = _
    rw [hfew k (by omega)]
    simp only [Option.bind_some]
    rw [if_pos hf]
    exact h2 k (by omega)
  obtain ⟨hl, hs⟩ := (fewB_iff l).1 hf
  by_cases h30 : (l.length : Int) > 30
  · simp only [if_pos h30]; exact out
  simp only [if_neg h30]
  by_cases h50 : (far.f1.f4.f1.length : Int) > 50
  · simp only [if_pos h50]; exact out
  simp only [if_neg h50]
  have main : ¬ (1 ≤ far.f0 ∧ far.f0 ≤ 7) → Ev (fun k => colloquylaw10_RegainMore.j0 k n o l true false far.f0 far.f1.f0 far.f1.f1.f0 far.f1.f1.f1 far.f1.f2.f0 far.f1.f2.f1 far.f1.f3.f0 far.f1.f3.f1 far.f1.f3.f2 far.f1.f3.f3 far.f1.f3.f4 far.f1.f3.f5 far.f1.f4.f0 far.f1.f4.f1) true := by
    intro hfar
    have hs1 : ∀ x ∈ l, x.f1.f4.f1.length ≤ 17592186044416 := fun x hx => Nat.le_trans (hs x hx) (by decide)
    have hs2 : ∀ x ∈ far :: l ++ l.map (fun x => (⟨x.f0, far.f1⟩ : S35)), x.f1.f4.f1.length ≤ 17592186044416 := by
      intro x hx
      rw [List.cons_append, List.mem_cons, List.mem_append, List.mem_map] at hx
      rcases hx with rfl | hx | ⟨y, _, rfl⟩
      · omega
      · exact hs1 x hx
      · show far.f1.f4.f1.length ≤ _; omega
    have hend := more_end n o l _ hs1 hs2 (count_more n l far hfar)
    have := more_l0 n o l hl far true l.length 0 (far :: l) (by omega) (by omega) (by rw [List.length_cons]; omega) (by rw [List.drop_zero]; exact hend)
    refine Ev.step (fun k => ?_) this
    simp only [colloquylaw10_RegainMore.j0]
    rw [if_neg (show ¬ (false = true) by decide)]
    simp only [Option.bind_some]
    rw [if_pos (by simp only [List.length_cons, List.length_nil]; omega)]
    rfl
  by_cases h1 : far.f0 ≥ 1
  · simp only [if_pos h1]
    by_cases h7 : far.f0 ≤ 7
    · rw [decide_eq_true h7]; exact out
    · rw [decide_eq_false h7]; exact main (by omega)
  · simp only [if_neg h1]
    exact main (by omega)
end Go.Proofs.Ytomgiaakhpemaaa.P
