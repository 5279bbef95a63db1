/- Plain facts for the laws of layer 10 (regain): which reports count, what is chosen; no condition but each one's own. -/
import Derived.Test.YtomgiaakhpemaaaPx0
import Derived.Test.YtomgiaakhpemaaaPx3
import Derived.Test.YtomgiaakhpemaaaPx7
import Derived.Test.YtomgiaakhpemaaaPx10
import Derived.Test.YtomgiaakhpemaaaPx11
import Derived.Test.YtomgiaakhpemaaaPx12
import Derived.Test.YtomgiaakhpemaaaPx13
import Derived.Test.YtomgiaakhpemaaaPx14
import Derived.Test.YtomgiaakhpemaaaPx15
import Derived.Test.YtomgiaakhpemaaaReg
import Derived.Test.YtomgiaakhpemaaaRegRef
namespace Go.Proofs.Ytomgiaakhpemaaa.P
open Go.RowKit Go.Proofs.YtomgiaakhpemaaaW.PrintWords Go.Proofs.YtomgiaakhpemaaaW.PrintLast Go.Proofs.YtomgiaakhpemaaaW.PrintMore
set_option linter.unusedVariables false
set_option linter.unusedSimpArgs false
theorem rd_short {c : List S35} {N : Nat} (h : ∀ x ∈ c, x.f1.f4.f1.length ≤ N) (i : Int) : (rd_T35 c i).f1.f4.f1.length ≤ N := by
  unfold rd_T35
  rw [List.getD_eq_getElem?_getD]
  cases h2 : c[i.toNat]? with
  | none => exact Nat.zero_le _
  | some x => exact h x (List.mem_of_getElem? h2)
theorem try0_none {c : List S35} (h : ∀ x ∈ c, x.f1.f0 ≠ 3) : ¬ tb (try0 c) = true := by
  rw [try0_tb]
  intro e
  obtain ⟨x, hx, h3⟩ := List.any_eq_true.1 e
  exact h x hx (by simpa using h3)
/-- the tail of the document's Decide: what nobody has committed -/
theorem ref_tail (n o : Int) (c : List S35) (hl : c.length ≤ 40) (hs : ∀ i : Int, (rd_T35 c i).f1.f4.f1.length ≤ 4611686018427387904) (h3 : ∀ x ∈ c, x.f1.f0 ≠ 3) : Ev (fun k => colloquyref10_Decide.l0 k n o c ((c.length : Nat) : Int)) (chooseP n o c) := by
  have h0 := try0_none h3
  have hq := quorumP_pos n
  rw [choose_eq, if_neg h0]
  refine Ev.step (fun k => by simp only [colloquyref10_Decide.l0]; rw [if_neg (show ¬ ((c.length : Nat) : Int) < (c.length : Int) by omega), refQuorum_eq]) ?_
  simp only [Option.bind_some]
  by_cases h1 : (c.length : Int) < quorumP n
  · simp only [if_pos h1]
    rw [if_pos (show tb (try1 n c) = true from decide_eq_true h1)]
    exact Ev.now _
  simp only [if_neg h1]
  rw [if_neg (show ¬ tb (try1 n c) = true from fun e => h1 (of_decide_eq_true e))]
  obtain ⟨r2, e2, b2⟩ := ref_best c hl 2
  obtain ⟨r1, e1, b1⟩ := ref_best c hl 1
  refine Ev.bind (f := fun k t295 => (colloquyref10_best.f k c 1).bind fun t296 => (if t295 ≥ 0 then (if t296 < 0 then (colloquyref10_Decide.j1 k o c t295 t296 true) else (if 0 ≤ t296 then (if t296 < (c.length : Int) then (if 0 ≤ t295 then (if t295 < (c.length : Int) then ((colloquyref07_Cmp.f k ((rd_T35 c t296).f1.f2.f0) ((rd_T35 c t296).f1.f2.f1) ((rd_T35 c t295).f1.f2.f0) ((rd_T35 c t295).f1.f2.f1)).bind fun t299 => (colloquyref10_Decide.j1 k o c t295 t296 (decide (t299 ≤ 0)))) else (none)) else (none)) else (none)) else (none))) else (colloquyref10_Decide.j1 k o c t295 t296 false))) e2 ?_
  refine Ev.bind (f := fun k t296 => (if r2 ≥ 0 then (if t296 < 0 then (colloquyref10_Decide.j1 k o c r2 t296 true) else (if 0 ≤ t296 then (if t296 < (c.length : Int) then (if 0 ≤ r2 then (if r2 < (c.length : Int) then ((colloquyref07_Cmp.f k ((rd_T35 c t296).f1.f2.f0) ((rd_T35 c t296).f1.f2.f1) ((rd_T35 c r2).f1.f2.f0) ((rd_T35 c r2).f1.f2.f1)).bind fun t299 => (colloquyref10_Decide.j1 k o c r2 t296 (decide (t299 ≤ 0)))) else (none)) else (none)) else (none)) else (none))) else (colloquyref10_Decide.j1 k o c r2 t296 false))) e1 ?_
  -- what stands behind the test of what was accepted
  have take : ∀ j : Nat, r2 = (j : Int) → j < c.length → bestP c 2 = (true, (rd_T35 c (j : Int)).f1) → ∀ t : CT, t = t9 (take10 (rd_T35 c (j : Int)).f1 2) → Ev (fun k => colloquyref10_Decide.j1 k o c r2 r1 true) t := by
    rintro j hr hj hb t rfl
    refine Ev.step (f := fun _ => some (t9 (take10 (rd_T35 c (j : Int)).f1 2))) (fun k => ?_) (Ev.now _)
    simp only [colloquyref10_Decide.j1]
    rw [if_pos trivial, hr, if_pos (by omega), if_pos (by omega)]
    rfl
  have rest : ¬ tb (try2 c) = true → Ev (fun k => colloquyref10_Decide.j1 k o c r2 r1 false) (if tb (try2 c) = true then t9 (try2 c) else if tb (try3 o c) = true then t9 (try3 o c) else if tb (try4 c) = true then t9 (try4 c) else (4, 0, 0, 0, 0, 0, ⟨#[]⟩, 0, [])) := by
    intro h2
    rw [if_neg h2]
    refine Ev.step (fun k => by simp only [colloquyref10_Decide.j1]; rw [if_neg (show ¬ (false = true) by decide)]) ?_
    refine Ev.bind (f := fun k t302 => (if t302 = true then (if 0 < (c.length : Int) then (some (2, (rd_T35 c 0).f1.f3.f0, (rd_T35 c 0).f1.f3.f1, (rd_T35 c 0).f1.f3.f2, (rd_T35 c 0).f1.f3.f3, (rd_T35 c 0).f1.f3.f4, (rd_T35 c 0).f1.f3.f5, (rd_T35 c 0).f1.f4.f0, (rd_T35 c 0).f1.f4.f1)) else (none)) else (if r1 ≥ 0 then (if 0 ≤ r1 then (if r1 < (c.length : Int) then (some (3, (rd_T35 c r1).f1.f3.f0, (rd_T35 c r1).f1.f3.f1, (rd_T35 c r1).f1.f3.f2, (rd_T35 c r1).f1.f3.f3, (rd_T35 c r1).f1.f3.f4, (rd_T35 c r1).f1.f3.f5, 0, ([] : List Int))) else (none)) else (none)) else (some (4, 0, 0, 0, 0, 0, (⟨#[]⟩ : ByteArray), 0, ([] : List Int)))))) (ref_first o c hl hs) ?_
    rw [try3_tb]
    cases h3 : sameAll o c with
    | true =>
      simp only [if_true]
      rw [show try3 o c = take10 (rd_T35 c 0).f1 2 from by unfold try3; rw [if_pos h3]]
      simp only [if_pos (show 0 < (c.length : Int) by omega)]
      exact Ev.now _
    | false =>
      simp only [Bool.false_eq_true, if_false]
      rcases b1 with ⟨rfl, hb⟩ | ⟨j, rfl, hj, hb⟩
      · have h4 : ¬ tb (try4 c) = true := by show ¬ (bestP c 1).1 = true; rw [hb]; decide
        rw [if_neg h4]
        exact Ev.now _
      · have h4 : tb (try4 c) = true := by show (bestP c 1).1 = true; rw [hb]
        rw [if_pos h4]
        simp only [if_pos (show (j : Int) ≥ 0 by omega), if_pos (show (j : Int) < (c.length : Int) by omega)]
        unfold try4
        rw [hb]
        exact Ev.now _
  rcases b2 with ⟨rfl, hb2⟩ | ⟨j, hj2, hj, hb2⟩
  · have h2 : ¬ tb (try2 c) = true := by unfold try2; rw [hb2, if_neg (show ¬ (false, z33).1 = true by decide)]; decide
    simp only [if_neg (show ¬ (-1 : Int) ≥ 0 by decide)]
    exact rest h2
  · simp only [if_pos (show r2 ≥ 0 by omega)]
    have ht2 : (bestP c 2).1 = true := by rw [hb2]
    rcases b1 with ⟨hr1, hb1⟩ | ⟨i, hr1, hi, hb1⟩
    · have e : try2 c = take10 (rd_T35 c (j : Int)).f1 2 := by
        unfold try2
        rw [if_pos ht2, hb1, if_neg (show ¬ (false, z33).1 = true by decide), hb2]
      simp only [if_pos (show r1 < 0 by omega)]
      rw [e, if_pos (show tb (take10 (rd_T35 c (j : Int)).f1 2) = true from rfl)]
      exact take j hj2 hj hb2 _ rfl
    · simp only [if_neg (show ¬ r1 < 0 by omega), if_pos (show 0 ≤ r1 by omega), if_pos (show r1 < (c.length : Int) by omega), if_pos (show 0 ≤ r2 by omega), if_pos (show r2 < (c.length : Int) by omega)]
      refine Ev.bind (f := fun k t299 => colloquyref10_Decide.j1 k o c r2 r1 (decide (t299 ≤ 0))) (refCmp_ev ..) ?_
      by_cases hc : cmpB (rd_T35 c r1).f1.f2.f0 (rd_T35 c r1).f1.f2.f1 (rd_T35 c r2).f1.f2.f0 (rd_T35 c r2).f1.f2.f1 > 0
      · rw [decide_eq_false (by omega)]
        refine rest ?_
        unfold try2
        rw [if_pos ht2, hb1, if_pos (show (true, (rd_T35 c (i : Int)).f1).1 = true from rfl), hb2, if_pos (by rw [hr1, hj2] at hc; exact hc)]
        decide
      · rw [decide_eq_true (by omega)]
        have e : try2 c = take10 (rd_T35 c (j : Int)).f1 2 := by
          unfold try2
          rw [if_pos ht2, hb1, if_pos (show (true, (rd_T35 c (i : Int)).f1).1 = true from rfl), hb2, if_neg (by rw [hr1, hj2] at hc; exact hc)]
        rw [e, if_pos (show tb (take10 (rd_T35 c (j : Int)).f1 2) = true from rfl)]
        exact take j hj2 hj hb2 _ rfl
theorem ref_decide_l0 (n o : Int) (c : List S35) (hl : c.length ≤ 40) (hs : ∀ i : Int, (rd_T35 c i).f1.f4.f1.length ≤ 4611686018427387904) : ∀ (q i : Nat), c.length - i ≤ q → i ≤ c.length → (∀ j : Nat, j < i → (rd_T35 c (j : Int)).f1.f0 ≠ 3) → Ev (fun k => colloquyref10_Decide.l0 k n o c (i : Int)) (chooseP n o c) := by
  have stop : ∀ i : Nat, i = c.length → (∀ j : Nat, j < i → (rd_T35 c (j : Int)).f1.f0 ≠ 3) → Ev (fun k => colloquyref10_Decide.l0 k n o c (i : Int)) (chooseP n o c) := by
    intro i hi h3
    subst hi
    refine ref_tail n o c hl hs fun x hx => ?_
    obtain ⟨j, hj, rfl⟩ := List.mem_iff_getElem.1 hx
    rw [← rdTR_at c j hj]
    exact h3 j hj
  intro q
  induction q with
  | zero => intro i hd hi h3; exact stop i (by omega) h3
  | succ q ih =>
    intro i hd hi h3
    by_cases hlt : i < c.length
    · by_cases h : (rd_T35 c (i : Int)).f1.f0 = 3
      · have e : c.findIdx? (fun x => x.f1.f0 == 3) = some i := by
          rw [List.findIdx?_eq_some_iff_getElem]
          refine ⟨hlt, by rw [← rdTR_at c i hlt]; simpa using h, fun j hj => ?_⟩
          rw [← rdTR_at c j (by omega)]
          simpa using h3 j hj
        have e0 : try0 c = take10 (rd_T35 c (i : Int)).f1 1 := by unfold try0; rw [e]
        rw [choose_eq, e0, if_pos (show tb (take10 (rd_T35 c (i : Int)).f1 1) = true from rfl)]
        refine Ev.step (f := fun _ => some (t9 (take10 (rd_T35 c (i : Int)).f1 1))) (fun k => ?_) (Ev.now _)
        simp only [colloquyref10_Decide.l0]
        rw [if_pos (by omega), if_pos (by omega), if_pos h]
        rfl
      · refine Ev.step (fun k => ?_) (ih (i + 1) (by omega) (by omega) fun j hj => ?_)
        · simp only [colloquyref10_Decide.l0]
          rw [if_pos (by omega), if_pos (by omega), if_neg h, show wrap64 ((i : Int) + 1) = ((i + 1 : Nat) : Int) by unfold wrap64; omega]
        · rcases Nat.lt_or_ge j i with h1 | h1
          · exact h3 j h1
          · rw [show j = i by omega]; exact h
    · exact stop i (by omega) h3
theorem ref_decide (n o : Int) (l : List S35) (hl : l.length ≤ 40) (hs : ∀ x ∈ l, x.f1.f4.f1.length ≤ 4611686018427387904) : Ev (fun k => colloquyref10_Decide.f k n o l) (chooseP n o (countP n l)) := by
  unfold colloquyref10_Decide.f
  refine Ev.bind (f := fun k t => colloquyref10_Decide.l0 k n o t 0) (ref_count n l hl) ?_
  exact ref_decide_l0 n o (countP n l) (Nat.le_trans (count_length n l) hl) (rd_short fun x hx => hs x (count_mem hx).1) _ 0 (Nat.le_refl _) (Nat.zero_le _) fun j hj => absurd hj (by omega)
theorem fast_eq (n o : Int) (l : List S35) : regain_Fast.f n o l = some (decide (((countP n l).length : Int) = manyP n) && sameAll o (countP n l)) := by
  unfold regain_Fast.f
  rw [show regain_collected.f n l = some (countP n l) from rfl, show regain_bound.f n = some (manyP n : Int) from by
    unfold regain_bound.f manyP
    congr 1
    have : 0 ≤ mn (mx n 1) 7 := by unfold mn mx; omega
    omega]
  simp only [Option.bind_some]
  by_cases h : ((countP n l).length : Int) = (manyP n : Int)
  · rw [if_pos h, decide_eq_true h, Bool.true_and]; rfl
  · rw [if_neg h, decide_eq_false h, Bool.false_and]
theorem ref_fast (n o : Int) (l : List S35) (hl : l.length ≤ 40) (hs : ∀ x ∈ l, x.f1.f4.f1.length ≤ 4611686018427387904) : Ev (fun k => colloquyref10_Fast.f k n o l) (decide (((countP n l).length : Int) = manyP n) && sameAll o (countP n l)) := by
  unfold colloquyref10_Fast.f
  refine Ev.bind (f := fun k t => (colloquyref10_first.f k o t).bind fun t314 => ((colloquyref10_bound.f n).bind fun t315 => (if (t.length : Int) = t315 then (some t314) else (some false)))) (ref_count n l hl) ?_
  refine Ev.bind (f := fun _ t314 => ((colloquyref10_bound.f n).bind fun t315 => (if ((countP n l).length : Int) = t315 then (some t314) else (some false)))) (ref_first o (countP n l) (Nat.le_trans (count_length n l) hl) (rd_short fun x hx => hs x (count_mem hx).1)) ?_
  rw [refBound_eq]
  simp only [Option.bind_some]
  by_cases h : ((countP n l).length : Int) = (manyP n : Int)
  · simp only [if_pos h, decide_eq_true h, Bool.true_and]; exact Ev.now _
  · simp only [if_neg h, decide_eq_false h, Bool.false_and]; exact Ev.now _
theorem choose_short (n o : Int) {c : List S35} (h : ∀ x ∈ c, x.f1.f4.f1.length ≤ 17592186044416) : (chooseP n o c).2.2.2.2.2.2.2.2.length ≤ 17592186044416 := by
  have key : ∀ (d i : Nat), (fromP n o c d i).2.2.2.2.2.2.2.2.length ≤ 17592186044416 := by
    intro d
    induction d with
    | zero => intro i; exact Nat.zero_le _
    | succ d ih =>
      intro i
      unfold fromP
      split
      · exact short_try h i
      · exact ih (i + 1)
  exact key 5 0
theorem RegainDecides.pure (n o : Int) (l : List S35) : ∃ k, colloquylaw10_RegainDecides.f k n o l = some true := by
  suffices h : Ev (fun k => colloquylaw10_RegainDecides.f k n o l) true from h.rounds
  unfold colloquylaw10_RegainDecides.f
  rw [awake_true]
  simp only [Option.bind_some, if_true]
  refine Ev.bind (f := fun k t => colloquylaw10_RegainDecides.j0 k n o l true (!t)) (few_ev l) ?_
  cases hf : fewB l with
  | false => exact Ev.step (f := fun _ => some true) (fun k => by simp only [colloquylaw10_RegainDecides.j0]; rw [if_pos (show (!false) = true from rfl)]) (Ev.now _)
  | true =>
    obtain ⟨hl, hs⟩ := (fewB_iff l).1 hf
    have hs1 : ∀ x ∈ l, x.f1.f4.f1.length ≤ 17592186044416 := fun x hx => Nat.le_trans (hs x hx) (by decide)
    have hs2 : ∀ x ∈ l, x.f1.f4.f1.length ≤ 4611686018427387904 := fun x hx => Nat.le_trans (hs x hx) (by decide)
    have hsh := choose_short n o (c := countP n l) fun x hx => hs1 x (count_mem hx).1
    refine Ev.step (fun k => by simp only [colloquylaw10_RegainDecides.j0]; rw [if_neg (show ¬ (!true) = true by decide), Decide_some n o l hs1, quorum_eq, refQuorum_eq, fast_eq]) ?_
    simp only [Option.bind_some, if_true]
    have hD := ref_decide n o l hl hs2
    generalize chooseP n o (countP n l) = t at hD hsh ⊢
    refine Ev.bind (f := fun k (s : CT) => (colloquyref10_Same.f k t.1 t.2.1 t.2.2.1 t.2.2.2.1 t.2.2.2.2.1 t.2.2.2.2.2.1 t.2.2.2.2.2.2.1 t.2.2.2.2.2.2.2.1 t.2.2.2.2.2.2.2.2 s.1 s.2.1 s.2.2.1 s.2.2.2.1 s.2.2.2.2.1 s.2.2.2.2.2.1 s.2.2.2.2.2.2.1 s.2.2.2.2.2.2.2.1 s.2.2.2.2.2.2.2.2).bind fun t340 => (if t340 = true then ((colloquyref10_Fast.f k n o l).bind fun t344 => (some ((decide (((countP n l).length : Int) = manyP n) && sameAll o (countP n l)) == t344))) else (some false))) hD ?_
    refine Ev.bind (f := fun k t340 => (if t340 = true then ((colloquyref10_Fast.f k n o l).bind fun t344 => (some ((decide (((countP n l).length : Int) = manyP n) && sameAll o (countP n l)) == t344))) else (some false))) (ref_same t (Nat.le_trans hsh (by decide))) ?_
    simp only [if_true]
    refine Ev.bind (f := fun _ t344 => (some ((decide (((countP n l).length : Int) = manyP n) && sameAll o (countP n l)) == t344))) (ref_fast n o l hl hs2) ?_
    rw [beq_self_eq_true]
    exact Ev.now _
end Go.Proofs.Ytomgiaakhpemaaa.P
