/- Plain facts for the laws of layer 10 (regain): which reports count, what is chosen; no condition but each one's own. -/
import Derived.Test.YtomgiaakhpemaaaPx0
import Derived.Test.YtomgiaakhpemaaaPx6
import Derived.Test.YtomgiaakhpemaaaPx7
import Derived.Test.YtomgiaakhpemaaaPx10
import Derived.Test.YtomgiaakhpemaaaPx11
import Derived.Test.YtomgiaakhpemaaaPx12
import Derived.Test.YtomgiaakhpemaaaPx13
import Derived.Test.YtomgiaakhpemaaaReg
import Derived.Test.YtomgiaakhpemaaaAttrW
namespace Go.Proofs.Ytomgiaakhpemaaa.P
open Go.RowKit Go.Proofs.YtomgiaakhpemaaaW.PrintWords Go.Proofs.YtomgiaakhpemaaaW.PrintLast Go.Proofs.YtomgiaakhpemaaaW.PrintMore
set_option linter.unusedVariables false
set_option linter.unusedSimpArgs false
theorem cmpI_cases (a b : Int) : (a < b ∧ cmpI a b = -1) ∨ (a = b ∧ cmpI a b = 0) ∨ (b < a ∧ cmpI a b = 1) := by
  unfold cmpI
  rcases Int.lt_trichotomy a b with h | h | h
  · exact .inl ⟨h, by rw [if_pos h]⟩
  · exact .inr (.inl ⟨h, by rw [if_neg (by omega), if_neg (by omega)]⟩)
  · exact .inr (.inr ⟨h, by rw [if_neg (by omega), if_pos h]⟩)
theorem cmpB_cases (a0 a1 b0 b1 : Int) : ((a0 < b0 ∨ a0 = b0 ∧ a1 < b1) ∧ cmpB a0 a1 b0 b1 = -1) ∨ ((a0 = b0 ∧ a1 = b1) ∧ cmpB a0 a1 b0 b1 = 0) ∨ ((b0 < a0 ∨ a0 = b0 ∧ b1 < a1) ∧ cmpB a0 a1 b0 b1 = 1) := by
  unfold cmpB
  rcases cmpI_cases a0 b0 with ⟨h, e⟩ | ⟨h, e⟩ | ⟨h, e⟩
  · rw [e, if_neg (by omega)]; omega
  · rw [e, if_pos rfl]
    rcases cmpI_cases a1 b1 with ⟨h2, e2⟩ | ⟨h2, e2⟩ | ⟨h2, e2⟩ <;> rw [e2] <;> omega
  · rw [e, if_neg (by omega)]; omega
theorem refCmp_ev (a0 a1 b0 b1 : Int) : Ev (fun k => colloquyref07_Cmp.f k a0 a1 b0 b1) (cmpB a0 a1 b0 b1) := by
  have h := cmpB_cases a0 a1 b0 b1
  unfold colloquyref07_Cmp.f
  generalize cmpB a0 a1 b0 b1 = x at *
  have key : ∀ c : Bool, (c = true ↔ x = -1) → Ev (fun k => colloquyref07_Cmp.j0 k c a0 a1 b0 b1) x := by
    intro c hc
    refine Ev.step (f := fun _ => some x) (fun k => ?_) (Ev.now _)
    simp only [colloquyref07_Cmp.j0]
    cases c with
    | true => rw [if_pos rfl, hc.1 rfl]
    | false =>
      have hx : x ≠ -1 := fun e => by have := hc.2 e; cases this
      rw [if_neg (by simp)]
      by_cases e : (a0 == b0 && a1 == b1) = true
      · rw [if_pos e]
        simp only [Bool.and_eq_true, beq_iff_eq] at e
        rw [show x = 0 by omega]
      · rw [if_neg e]
        simp only [Bool.and_eq_true, beq_iff_eq] at e
        rw [show x = 1 by omega]
  by_cases h1 : a0 < b0
  · simp only [if_pos h1]; exact key _ (by constructor <;> intro _ <;> first | rfl | omega)
  by_cases h2 : a0 = b0
  · simp only [if_neg h1, if_pos h2]; exact key _ (by rw [decide_eq_true_iff]; omega)
  · simp only [if_neg h1, if_neg h2]; exact key _ (by constructor <;> intro e <;> first | (cases e; done) | omega)
theorem refBound_eq (n : Int) : colloquyref10_bound.f n = some (manyP n : Int) := by
  unfold colloquyref10_bound.f manyP mn mx
  by_cases h : n < 1
  · rw [if_pos h]; congr 1; omega
  · rw [if_neg h]
    by_cases h2 : n > 7
    · rw [if_pos h2]; congr 1; omega
    · rw [if_neg h2]; congr 1; omega
theorem refQuorum_eq (n : Int) : colloquyref10_Quorum.f n = some (quorumP n) := by
  unfold colloquyref10_Quorum.f
  rw [refBound_eq, quorum_many]
  simp only [Option.bind_some]
  congr 1
  have := manyP_bd n
  rw [Int.tdiv_eq_ediv_of_nonneg (by omega)]
  unfold wrap64
  omega
/-- what is found is put behind -/
def putO (acc : List S35) : Option S35 → List S35
  | some x => acc ++ [x]
  | none => acc
theorem ref_count_l1 (n : Int) (l : List S35) (hl : l.length ≤ 40) (acc : List S35) (ha : acc.length ≤ 10) (b : Nat) (hb : b < 100) (r : List S35) : ∀ (q i : Nat), l.length - i ≤ q → i ≤ l.length →
    Ev (fun k => colloquyref10_Count.l0 k n l (putO acc (firstR (l.drop i) b)) (((b + 1 : Nat) : Int) + 1)) r → Ev (fun k => colloquyref10_Count.l1 k n l acc ((b : Int) + 1) (i : Int)) r := by
  have hw : wrap64 ((b : Int) + 1 + 1) = ((b + 1 : Nat) : Int) + 1 := by unfold wrap64; omega
  have stop : ∀ i : Nat, i = l.length → Ev (fun k => colloquyref10_Count.l0 k n l (putO acc (firstR (l.drop i) b)) (((b + 1 : Nat) : Int) + 1)) r → Ev (fun k => colloquyref10_Count.l1 k n l acc ((b : Int) + 1) (i : Int)) r := by
    intro i hi hE
    subst hi
    rw [List.drop_length] at hE
    refine Ev.step (fun k => ?_) hE
    simp only [colloquyref10_Count.l1]
    rw [if_neg (by omega), hw]
    rfl
  intro q
  induction q with
  | zero => intro i hd hi hE; exact stop i (by omega) hE
  | succ q ih =>
    intro i hd hi hE
    by_cases hlt : i < l.length
    · rw [drop_cons l i hlt, firstR_cons] at hE
      by_cases h : (rd_T35 l (i : Int)).f0 = (b : Int) + 1
      · rw [if_pos h] at hE
        refine Ev.step (fun k => ?_) hE
        simp only [colloquyref10_Count.l1]
        rw [if_pos (by omega), if_pos (by omega), if_pos h, if_pos (by omega), hw]
        rfl
      · rw [if_neg h] at hE
        refine Ev.step (fun k => ?_) (ih (i + 1) (by omega) (by omega) hE)
        simp only [colloquyref10_Count.l1]
        rw [if_pos (by omega), if_pos (by omega), if_neg h, show wrap64 ((i : Int) + 1) = ((i + 1 : Nat) : Int) by unfold wrap64; omega]
    · exact stop i (by omega) hE
theorem ref_count_l0 (n : Int) (l : List S35) (hl : l.length ≤ 40) : ∀ (q b : Nat) (acc : List S35), b + q = manyP n → acc.length ≤ b →
    Ev (fun k => colloquyref10_Count.l0 k n l acc ((b : Int) + 1)) (acc ++ (List.range' b q).filterMap (firstR l)) := by
  have hm := manyP_bd n
  intro q
  induction q with
  | zero =>
    intro b acc hb ha
    rw [List.range'_zero, List.filterMap_nil, List.append_nil]
    refine Ev.step (f := fun _ => some acc) (fun k => ?_) (Ev.now _)
    simp only [colloquyref10_Count.l0]
    rw [refBound_eq]
    simp only [Option.bind_some]
    rw [if_neg (by omega)]
  | succ q ih =>
    intro b acc hb ha
    refine Ev.step (f := fun k => colloquyref10_Count.l1 k n l acc ((b : Int) + 1) 0) (fun k => ?_) ?_
    · simp only [colloquyref10_Count.l0]
      rw [refBound_eq]
      simp only [Option.bind_some]
      rw [if_pos (by omega)]
    · refine ref_count_l1 n l hl acc (by omega) b (by omega) _ l.length 0 (by omega) (by omega) ?_
      rw [List.drop_zero, List.range'_succ, List.filterMap_cons]
      cases hf : firstR l b with
      | none => exact ih (b + 1) acc (by omega) (by omega)
      | some x =>
        have := ih (b + 1) (acc ++ [x]) (by omega) (by rw [List.length_append, List.length_singleton]; omega)
        rw [List.append_assoc] at this
        exact this
theorem ref_count (n : Int) (l : List S35) (hl : l.length ≤ 40) : Ev (fun k => colloquyref10_Count.f k n l) (countP n l) := by
  have := ref_count_l0 n l hl (manyP n) 0 [] (by omega) (by simp)
  rw [List.nil_append, ← List.range_eq_range', ← count_eq] at this
  exact this
/-- an index and what stands there -/
def relB (c : List S35) (r : Int) (a : Bool × S33) : Prop := (r = -1 ∧ a = (false, z33)) ∨ ∃ j : Nat, r = (j : Int) ∧ j < c.length ∧ a = (true, (rd_T35 c (j : Int)).f1)
theorem ref_best_l0 (c : List S35) (hl : c.length ≤ 40) (st : Int) : ∀ (q i : Nat) (x : Int) (a : Bool × S33), c.length - i ≤ q → i ≤ c.length → relB c x a →
    ∃ r, Ev (fun k => colloquyref10_best.l0 k c st x (i : Int)) r ∧ relB c r ((c.drop i).foldl (stepB st) a) := by
  have stop : ∀ (i : Nat) (x : Int) (a : Bool × S33), i = c.length → relB c x a → ∃ r, Ev (fun k => colloquyref10_best.l0 k c st x (i : Int)) r ∧ relB c r ((c.drop i).foldl (stepB st) a) := by
    intro i x a hi hr
    subst hi
    refine ⟨x, Ev.step (f := fun _ => some x) (fun k => ?_) (Ev.now _), by rw [List.drop_length]; exact hr⟩
    simp only [colloquyref10_best.l0]
    rw [if_neg (by omega)]
  intro q
  induction q with
  | zero => intro i x a hd hi hr; exact stop i x a (by omega) hr
  | succ q ih =>
    intro i x a hd hi hr
    by_cases hlt : i < c.length
    · have hw : wrap64 ((i : Int) + 1) = ((i + 1 : Nat) : Int) := by unfold wrap64; omega
      rw [drop_cons c i hlt, List.foldl_cons]
      by_cases h : (rd_T35 c (i : Int)).f1.f0 = st
      · rcases hr with ⟨rfl, rfl⟩ | ⟨j, rfl, hj, rfl⟩
        · obtain ⟨r, h1, h2⟩ := ih (i + 1) (i : Int) (true, (rd_T35 c (i : Int)).f1) (by omega) (by omega) (.inr ⟨i, rfl, hlt, rfl⟩)
          refine ⟨r, Ev.step (fun k => ?_) h1, ?_⟩
          · simp only [colloquyref10_best.l0]
            rw [if_pos (by omega), if_pos (by omega), if_pos h, if_pos (by omega), hw]
          · unfold stepB at h2 ⊢
            rw [if_pos h, if_neg (by decide)]
            exact h2
        · by_cases hc : cmpB (rd_T35 c (i : Int)).f1.f2.f0 (rd_T35 c (i : Int)).f1.f2.f1 (rd_T35 c (j : Int)).f1.f2.f0 (rd_T35 c (j : Int)).f1.f2.f1 > 0
          · obtain ⟨r, h1, h2⟩ := ih (i + 1) (i : Int) (true, (rd_T35 c (i : Int)).f1) (by omega) (by omega) (.inr ⟨i, rfl, hlt, rfl⟩)
            refine ⟨r, Ev.step (f := fun k => (colloquyref07_Cmp.f k (rd_T35 c (i : Int)).f1.f2.f0 (rd_T35 c (i : Int)).f1.f2.f1 (rd_T35 c (j : Int)).f1.f2.f0 (rd_T35 c (j : Int)).f1.f2.f1).bind fun t => if t > 0 then colloquyref10_best.l0 k c st (i : Int) ((i + 1 : Nat) : Int) else colloquyref10_best.l0 k c st (j : Int) ((i + 1 : Nat) : Int)) (fun k => ?_) (Ev.bind (f := fun k t => if t > 0 then colloquyref10_best.l0 k c st (i : Int) ((i + 1 : Nat) : Int) else colloquyref10_best.l0 k c st (j : Int) ((i + 1 : Nat) : Int)) (refCmp_ev ..) ?_), ?_⟩
            · simp only [colloquyref10_best.l0]
              rw [if_pos (by omega), if_pos (by omega), if_pos h, if_neg (by omega), if_pos (by omega), if_pos (by omega), hw]
            · simp only [if_pos hc]; exact h1
            · have e : stepB st (true, (rd_T35 c (j : Int)).f1) (rd_T35 c (i : Int)) = (true, (rd_T35 c (i : Int)).f1) := by unfold stepB; rw [if_pos h, if_pos rfl, if_pos hc]
              rw [e]
              exact h2
          · obtain ⟨r, h1, h2⟩ := ih (i + 1) (j : Int) (true, (rd_T35 c (j : Int)).f1) (by omega) (by omega) (.inr ⟨j, rfl, hj, rfl⟩)
            refine ⟨r, Ev.step (f := fun k => (colloquyref07_Cmp.f k (rd_T35 c (i : Int)).f1.f2.f0 (rd_T35 c (i : Int)).f1.f2.f1 (rd_T35 c (j : Int)).f1.f2.f0 (rd_T35 c (j : Int)).f1.f2.f1).bind fun t => if t > 0 then colloquyref10_best.l0 k c st (i : Int) ((i + 1 : Nat) : Int) else colloquyref10_best.l0 k c st (j : Int) ((i + 1 : Nat) : Int)) (fun k => ?_) (Ev.bind (f := fun k t => if t > 0 then colloquyref10_best.l0 k c st (i : Int) ((i + 1 : Nat) : Int) else colloquyref10_best.l0 k c st (j : Int) ((i + 1 : Nat) : Int)) (refCmp_ev ..) ?_), ?_⟩
            · simp only [colloquyref10_best.l0]
              rw [if_pos (by omega), if_pos (by omega), if_pos h, if_neg (by omega), if_pos (by omega), if_pos (by omega), hw]
            · simp only [if_neg hc]; exact h1
            · have e : stepB st (true, (rd_T35 c (j : Int)).f1) (rd_T35 c (i : Int)) = (true, (rd_T35 c (j : Int)).f1) := by unfold stepB; rw [if_pos h, if_pos rfl, if_neg hc]
              rw [e]
              exact h2
      · obtain ⟨r, h1, h2⟩ := ih (i + 1) x a (by omega) (by omega) hr
        refine ⟨r, Ev.step (fun k => ?_) h1, ?_⟩
        · simp only [colloquyref10_best.l0]
          rw [if_pos (by omega), if_pos (by omega), if_neg h, hw]
        · have e : stepB st a (rd_T35 c (i : Int)) = a := by unfold stepB; rw [if_neg h]
          rw [e]
          exact h2
    · exact stop i x a (by omega) hr
theorem ref_best (c : List S35) (hl : c.length ≤ 40) (st : Int) : ∃ r, Ev (fun k => colloquyref10_best.f k c st) r ∧ relB c r (bestP c st) := by
  have := ref_best_l0 c hl st c.length 0 (-1) (false, z33) (by omega) (by omega) (.inl ⟨rfl, rfl⟩)
  rw [List.drop_zero] at this
  exact this
theorem sameR_sm (s : Int) (a : List Int) (t : Int) (b : List Int) : sameR s a t b = sm s a t b := rfl
theorem ref_first_l0 (o : Int) (c : List S35) (hl : c.length ≤ 40) (hs : ∀ i : Int, (rd_T35 c i).f1.f4.f1.length ≤ 4611686018427387904) : ∀ (q i : Nat), c.length - i ≤ q → i ≤ c.length →
    Ev (fun k => colloquyref10_first.l0 k o c (i : Int)) ((c.drop i).all fun x => !oddR o x (rd_T35 c 0)) := by
  have stop : ∀ i : Nat, i = c.length → Ev (fun k => colloquyref10_first.l0 k o c (i : Int)) ((c.drop i).all fun x => !oddR o x (rd_T35 c 0)) := by
    intro i hi
    subst hi
    rw [List.drop_length]
    refine Ev.step (f := fun _ => some true) (fun k => ?_) (Ev.now _)
    simp only [colloquyref10_first.l0]
    rw [if_neg (by omega)]
  intro q
  induction q with
  | zero => intro i hd hi; exact stop i (by omega)
  | succ q ih =>
    intro i hd hi
    by_cases hlt : i < c.length
    · have hw : wrap64 ((i : Int) + 1) = ((i + 1 : Nat) : Int) := by unfold wrap64; omega
      rw [drop_cons c i hlt, List.all_cons]
      have IH := ih (i + 1) (by omega) (by omega)
      refine Ev.step (fun k => by simp only [colloquyref10_first.l0]; rw [if_pos (show (i : Int) < (c.length : Int) by omega), if_pos (show 0 ≤ (i : Int) by omega), if_pos (show 0 < (c.length : Int) by omega), hw]) ?_
      refine Ev.bind (f := fun k t => (if ((rd_T35 c (i : Int)).f1.f0) = 1 then (if (!(((rd_T35 c (i : Int)).f1.f2.f0) == 0) || (!(((rd_T35 c (i : Int)).f1.f2.f1) == o))) = true then (some false) else (if (!(((rd_T35 c (i : Int)).f1.f3.f0) == ((rd_T35 c 0).f1.f3.f0)) || (!(((rd_T35 c (i : Int)).f1.f3.f1) == ((rd_T35 c 0).f1.f3.f1)) || (!(((rd_T35 c (i : Int)).f1.f3.f2) == ((rd_T35 c 0).f1.f3.f2)) || (!(((rd_T35 c (i : Int)).f1.f3.f3) == ((rd_T35 c 0).f1.f3.f3)) || (!(((rd_T35 c (i : Int)).f1.f3.f4) == ((rd_T35 c 0).f1.f3.f4)) || (!((((rd_T35 c (i : Int)).f1.f3.f5).toList) == (((rd_T35 c 0).f1.f3.f5).toList)))))))) = true then (some false) else (if t = true then (colloquyref10_first.l0 k o c ((i + 1 : Nat) : Int)) else (some false)))) else (some false))) (ref_Same.ev _ _ _ _ (hs _) (hs _)) ?_
      rw [← sameR_sm]
      generalize (c.drop (i + 1)).all (fun x => !oddR o x (rd_T35 c 0)) = rest at IH ⊢
      unfold oddR
      by_cases h1 : (rd_T35 c (i : Int)).f1.f0 = 1
      · simp only [if_pos h1]
        rw [show ((rd_T35 c (i : Int)).f1.f0 != 1) = false from by rw [bne_eq_false_iff_eq]; exact h1, Bool.false_or]
        cases h2 : (!((rd_T35 c (i : Int)).f1.f2.f0 == 0) || !((rd_T35 c (i : Int)).f1.f2.f1 == o)) with
        | true => simp only [if_true, Bool.true_or, Bool.not_true, Bool.false_and]; exact Ev.now _
        | false =>
          simp only [Bool.false_eq_true, if_false, Bool.false_or]
          generalize (!((rd_T35 c (i : Int)).f1.f3.f0 == (rd_T35 c 0).f1.f3.f0) || (!((rd_T35 c (i : Int)).f1.f3.f1 == (rd_T35 c 0).f1.f3.f1) || (!((rd_T35 c (i : Int)).f1.f3.f2 == (rd_T35 c 0).f1.f3.f2) || (!((rd_T35 c (i : Int)).f1.f3.f3 == (rd_T35 c 0).f1.f3.f3) || (!((rd_T35 c (i : Int)).f1.f3.f4 == (rd_T35 c 0).f1.f3.f4) || !((rd_T35 c (i : Int)).f1.f3.f5.toList == (rd_T35 c 0).f1.f3.f5.toList)))))) = q3
          cases q3
          · simp only [Bool.false_eq_true, if_false, Bool.false_or, Bool.not_not]
            generalize sameR (rd_T35 c (i : Int)).f1.f4.f0 (rd_T35 c (i : Int)).f1.f4.f1 (rd_T35 c 0).f1.f4.f0 (rd_T35 c 0).f1.f4.f1 = q4
            cases q4
            · simp only [Bool.false_eq_true, if_false, Bool.false_and]; exact Ev.now _
            · simp only [if_true, Bool.true_and]; exact IH
          · simp only [if_true, Bool.true_or, Bool.not_true, Bool.false_and]; exact Ev.now _
      · simp only [if_neg h1]
        rw [show ((rd_T35 c (i : Int)).f1.f0 != 1) = true from by rw [bne_iff_ne]; exact h1, Bool.true_or, Bool.not_true, Bool.false_and]
        exact Ev.now _
    · exact stop i (by omega)
theorem ref_first (o : Int) (c : List S35) (hl : c.length ≤ 40) (hs : ∀ i : Int, (rd_T35 c i).f1.f4.f1.length ≤ 4611686018427387904) : Ev (fun k => colloquyref10_first.f k o c) (sameAll o c) := by
  have := ref_first_l0 o c hl hs c.length 0 (by omega) (by omega)
  rw [List.drop_zero] at this
  have e : (c.all fun x => !oddR o x (rd_T35 c 0)) = sameAll o c := by
    unfold sameAll
    rw [List.not_any_eq_all_not]
  rw [e] at this
  exact this
theorem ref_same (t : CT) (h : t.2.2.2.2.2.2.2.2.length ≤ 4611686018427387904) : Ev (fun k => colloquyref10_Same.f k t.1 t.2.1 t.2.2.1 t.2.2.2.1 t.2.2.2.2.1 t.2.2.2.2.2.1 t.2.2.2.2.2.2.1 t.2.2.2.2.2.2.2.1 t.2.2.2.2.2.2.2.2 t.1 t.2.1 t.2.2.1 t.2.2.2.1 t.2.2.2.2.1 t.2.2.2.2.2.1 t.2.2.2.2.2.2.1 t.2.2.2.2.2.2.2.1 t.2.2.2.2.2.2.2.2) true := by
  unfold colloquyref10_Same.f
  refine Ev.bind (f := fun _ q => if q = true then (if t.1 = t.1 then some (t.2.1 == t.2.1 && (t.2.2.1 == t.2.2.1 && (t.2.2.2.1 == t.2.2.2.1 && (t.2.2.2.2.1 == t.2.2.2.2.1 && (t.2.2.2.2.2.1 == t.2.2.2.2.2.1 && (t.2.2.2.2.2.2.1.toList == t.2.2.2.2.2.2.1.toList)))))) else some false) else some false) (ref_Same.ev _ _ _ _ h h) ?_
  rw [sm_refl]
  simp only [if_true, beq_self_eq_true, Bool.and_self]
  exact Ev.now _
end Go.Proofs.Ytomgiaakhpemaaa.P
