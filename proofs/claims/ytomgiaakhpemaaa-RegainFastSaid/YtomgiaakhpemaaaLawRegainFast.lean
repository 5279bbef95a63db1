/- Plain facts for the laws of layer 10 (regain): which reports count, what is chosen; no condition but each one's own. -/
import Derived.Test.YtomgiaakhpemaaaPx0
import Derived.Test.YtomgiaakhpemaaaPx3
import Derived.Test.YtomgiaakhpemaaaPx4
import Derived.Test.YtomgiaakhpemaaaPx6
import Derived.Test.YtomgiaakhpemaaaPx7
import Derived.Test.YtomgiaakhpemaaaPx10
import Derived.Test.YtomgiaakhpemaaaPx15
import Derived.Test.YtomgiaakhpemaaaPx16
import Derived.Test.YtomgiaakhpemaaaReg
import Derived.Test.YtomgiaakhpemaaaAttrW
namespace Go.Proofs.Ytomgiaakhpemaaa.P
open Go.RowKit Go.Proofs.YtomgiaakhpemaaaW.PrintWords Go.Proofs.YtomgiaakhpemaaaW.PrintLast Go.Proofs.YtomgiaakhpemaaaW.PrintMore
set_option linter.unusedVariables false
set_option linter.unusedSimpArgs false
theorem fast_eq' (n o : Int) (l : List S35) : regain_Fast.f n o l = some (decide (((countP n l).length : Int) = manyP n) && sameAll o (countP n l)) := by
  unfold regain_Fast.f
  rw [show regain_collected.f n l = some (countP n l) from rfl, show regain_bound.f n = some (manyP n : Int) from by
    unfold regain_bound.f manyP
    congr 1
    have : 0 ≤ mn (mx n 1) 7 := by unfold mn mx; omega
    omega]
  simp only [Option.bind_some]
  by_cases h : ((countP n l).length : Int) = (manyP n : Int)
  · rw [if_pos h, decide_eq_true h, Bool.true_and]; rfl
  · rw [if_neg h, decide_eq_false h, Bool.false_and]
theorem part_l0 (l : List S35) (who : List Bool) (hl : l.length ≤ 40) : ∀ (q i : Nat) (acc : List S35), l.length - i ≤ q → i ≤ l.length → acc.length ≤ i → ∃ e : List S35, e.Sublist (l.drop i) ∧ Ev (fun k => colloquylaw10_part.l0 k l who acc (i : Int)) (acc ++ e) := by
  have stop : ∀ (i : Nat) (acc : List S35), Ev (fun k => colloquylaw10_part.j1 k l who acc (i : Int) false) acc := fun i acc => Ev.step (f := fun _ => some acc) (fun k => by simp only [colloquylaw10_part.j1]; rw [if_neg (show ¬ (false = true) by decide)]) (Ev.now _)
  intro q
  induction q with
  | zero =>
    intro i acc hd hi ha
    refine ⟨[], List.nil_sublist _, ?_⟩
    rw [List.append_nil]
    refine Ev.step (fun k => ?_) (stop i acc)
    simp only [colloquylaw10_part.l0]
    rw [if_neg (by omega)]
  | succ q ih =>
    intro i acc hd hi ha
    by_cases hlt : i < l.length
    · have hw : wrap64 ((i : Int) + 1) = ((i + 1 : Nat) : Int) := by unfold wrap64; omega
      by_cases hw2 : (i : Int) < (who.length : Int)
      · by_cases hb : rdOf false who (i : Int) = true
        · obtain ⟨e, h1, h2⟩ := ih (i + 1) (acc ++ [rd_T35 l (i : Int)]) (by omega) (by omega) (by rw [List.length_append, List.length_singleton]; omega)
          refine ⟨rd_T35 l (i : Int) :: e, by rw [drop_cons l i hlt]; exact h1.cons_cons _, ?_⟩
          rw [List.append_assoc] at h2
          refine Ev.step (f := fun k => colloquylaw10_part.j1 k l who acc (i : Int) true) (fun k => ?_) (Ev.step (fun k => ?_) h2)
          · simp only [colloquylaw10_part.l0]
            rw [if_pos (by omega), decide_eq_true hw2]
          · simp only [colloquylaw10_part.j1]
            rw [if_pos trivial, if_pos (by omega), if_pos hw2, if_pos hb, if_pos (by omega), if_pos (by omega), hw]
        · obtain ⟨e, h1, h2⟩ := ih (i + 1) acc (by omega) (by omega) (by omega)
          refine ⟨e, by rw [drop_cons l i hlt]; exact h1.cons _, ?_⟩
          refine Ev.step (f := fun k => colloquylaw10_part.j1 k l who acc (i : Int) true) (fun k => ?_) (Ev.step (fun k => ?_) h2)
          · simp only [colloquylaw10_part.l0]
            rw [if_pos (by omega), decide_eq_true hw2]
          · simp only [colloquylaw10_part.j1]
            rw [if_pos trivial, if_pos (by omega), if_pos hw2, if_neg hb, hw]
      · refine ⟨[], List.nil_sublist _, ?_⟩
        rw [List.append_nil]
        refine Ev.step (fun k => ?_) (stop i acc)
        simp only [colloquylaw10_part.l0]
        rw [if_pos (by omega), decide_eq_false hw2]
    · refine ⟨[], List.nil_sublist _, ?_⟩
      rw [List.append_nil]
      refine Ev.step (fun k => ?_) (stop i acc)
      simp only [colloquylaw10_part.l0]
      rw [if_neg (by omega)]
theorem part_ev (l : List S35) (who : List Bool) (hl : l.length ≤ 40) : ∃ p : List S35, p.Sublist l ∧ Ev (fun k => colloquylaw10_part.f k l who) p := by
  obtain ⟨e, h1, h2⟩ := part_l0 l who hl l.length 0 [] (by omega) (by omega) (Nat.le_refl _)
  rw [List.drop_zero] at h1
  exact ⟨e, h1, h2⟩
/-- where no two are of one replica, all count -/
theorem count_full : ∀ (p : List S35) (m : Nat), (∀ a : Int, (p.filter fun x => x.f0 == a).length ≤ 1) → (∀ x ∈ p, 1 ≤ x.f0 ∧ x.f0 ≤ m) → ((List.range m).filterMap (firstR p)).length = p.length := by
  intro p
  induction p with
  | nil =>
    intro m _ _
    have : (List.range m).filterMap (firstR []) = [] := by
      rw [List.filterMap_eq_nil_iff]; intro k _; rfl
    rw [this]
  | cons x p ih =>
    intro m hd hb
    have hx := hb x (List.mem_cons_self)
    have hno : ∀ y ∈ p, y.f0 ≠ x.f0 := by
      intro y hy e
      have h1 := hd x.f0
      rw [List.filter_cons_of_pos (by simp), List.length_cons] at h1
      have : y ∈ p.filter fun z => z.f0 == x.f0 := List.mem_filter.2 ⟨hy, by rw [e]; simp⟩
      have := List.length_pos_of_mem this
      omega
    have key : ∀ m : Nat, ((List.range m).filterMap (firstR (x :: p))).length = ((List.range m).filterMap (firstR p)).length + (if x.f0 ≤ m then 1 else 0) := by
      intro m
      induction m with
      | zero => rw [if_neg (by omega)]; rfl
      | succ m ihm =>
        rw [List.range_succ, List.filterMap_append, List.filterMap_append, List.length_append, List.length_append, List.filterMap_cons, List.filterMap_cons, firstR_cons]
        simp only [List.filterMap_nil]
        by_cases h : x.f0 = (m : Int) + 1
        · have hn : firstR p m = none := by
            unfold firstR
            rw [List.find?_eq_none]
            intro y hy
            have := hno y hy
            rw [h] at this
            rw [beq_iff_eq]; exact this
          rw [if_pos h, hn, if_pos (by omega)]
          rw [if_neg (by omega)] at ihm
          simp only [List.length_cons, List.length_nil]
          omega
        · rw [if_neg h]
          by_cases hc : x.f0 ≤ (m : Int)
          · rw [if_pos hc] at ihm
            rw [if_pos (by omega)]
            omega
          · rw [if_neg hc] at ihm
            rw [if_neg (by omega)]
            omega
    rw [key m, if_pos hx.2, ih m (fun a => ?_) (fun y hy => hb y (List.mem_cons_of_mem _ hy)), List.length_cons]
    have h1 := hd a
    cases hxa : x.f0 == a with
    | true => rw [List.filter_cons_of_pos (p := fun x : S35 => x.f0 == a) hxa, List.length_cons] at h1; omega
    | false => rw [List.filter_cons_of_neg (p := fun x : S35 => x.f0 == a) (by rw [hxa]; decide)] at h1; exact h1
/-- each replica at most once among those that count -/
theorem count_one (l : List S35) (a : Int) : ∀ m : Nat, (((List.range m).filterMap (firstR l)).filter fun x => x.f0 == a).length ≤ (if a ≤ m then 1 else 0) := by
  intro m
  induction m with
  | zero => exact Nat.zero_le _
  | succ m ih =>
    rw [List.range_succ, List.filterMap_append, List.filter_append, List.length_append, List.filterMap_cons, List.filterMap_nil]
    cases hf : firstR l m with
    | none =>
      dsimp only
      rw [List.filter_nil, List.length_nil]
      split at ih
      · rw [if_pos (by omega)]; omega
      · omega
    | some x =>
      dsimp only
      have hx := (firstR_mem hf).2
      by_cases ha : a = (m : Int) + 1
      · rw [if_neg (by omega)] at ih
        rw [if_pos (by omega), List.filter_cons_of_pos (by rw [hx, ha]; simp), List.filter_nil]
        simp only [List.length_cons, List.length_nil]
        omega
      · rw [List.filter_cons_of_neg (by rw [hx, beq_iff_eq]; omega), List.filter_nil, List.length_nil]
        split at ih
        · rw [if_pos (by omega)]; omega
        · omega
theorem filter_split (l : List S35) (p : S35 → Bool) : (l.filter p).length + (l.filter fun x => !p x).length = l.length := by
  induction l with
  | nil => rfl
  | cons x l ih =>
    cases h : p x with
    | true => rw [List.filter_cons_of_pos h, List.filter_cons_of_neg (by rw [h]; decide), List.length_cons, List.length_cons]; omega
    | false => rw [List.filter_cons_of_neg (by rw [h]; decide), List.filter_cons_of_pos (by rw [h]; rfl), List.length_cons, List.length_cons]; omega
/-- as many count as there are: then those that are so are as many -/
theorem count_same (n : Int) (l : List S35) (h : (countP n l).length = l.length) (p : S35 → Bool) : ((countP n l).filter p).length = (l.filter p).length := by
  have h1 := count_le p l (manyP n)
  have h2 := count_le (fun x => !p x) l (manyP n)
  rw [← count_eq] at h1 h2
  have h3 := filter_split l p
  have h4 := filter_split (countP n l) p
  omega
theorem RegainFast.pure (n o : Int) (l : List S35) (who : List Bool) : ∃ k, colloquylaw10_RegainFast.f k n o l who = some true := by
  suffices h : Ev (fun k => colloquylaw10_RegainFast.f k n o l who) true from h.rounds
  have out : Ev (fun k => colloquylaw10_RegainFast.j0 k n o l who true true) true := Ev.step (f := fun _ => some true) (fun k => by simp only [colloquylaw10_RegainFast.j0]; rw [if_pos trivial]) (Ev.now _)
  unfold colloquylaw10_RegainFast.f
  rw [awake_true]
  simp only [Option.bind_some, if_true]
  refine Ev.bind (f := fun k t => if t = true then (if n < 1 then colloquylaw10_RegainFast.j0 k n o l who true true else if n > 7 then colloquylaw10_RegainFast.j0 k n o l who true true else colloquylaw10_RegainFast.j0 k n o l who true ((l.length : Int) != n)) else colloquylaw10_RegainFast.j0 k n o l who true true) (few_ev l) ?_
  by_cases hf : fewB l = true
  rotate_left
  · simp only [if_neg hf]; exact out
  simp only [if_pos hf]
  by_cases h1 : n < 1
  · simp only [if_pos h1]; exact out
  simp only [if_neg h1]
  by_cases h7 : n > 7
  · simp only [if_pos h7]; exact out
  simp only [if_neg h7]
  by_cases hn : (l.length : Int) = n
  rotate_left
  · rw [show ((l.length : Int) != n) = true from bne_iff_ne.2 hn]; exact out
  rw [show ((l.length : Int) != n) = false from bne_eq_false_iff_eq.2 hn]
  obtain ⟨hl, hs⟩ := (fewB_iff l).1 hf
  have hs1 : ∀ x ∈ l, x.f1.f4.f1.length ≤ 17592186044416 := fun x hx => Nat.le_trans (hs x hx) (by decide)
  have hs2 : ∀ x ∈ l, x.f1.f4.f1.length ≤ 4611686018427387904 := fun x hx => Nat.le_trans (hs x hx) (by decide)
  have hm := manyP_self n (by omega) (by omega)
  refine Ev.step (fun k => by simp only [colloquylaw10_RegainFast.j0]; rw [if_neg (show ¬ (false = true) by decide), fast_eq']) ?_
  simp only [Option.bind_some]
  cases hfast : (decide (((countP n l).length : Int) = manyP n) && sameAll o (countP n l)) with
  | false => simp only [Bool.false_eq_true, if_false]; exact Ev.now _
  | true =>
    simp only [if_true]
    rw [Bool.and_eq_true, decide_eq_true_iff] at hfast
    obtain ⟨hcl, hsame⟩ := hfast
    have hcl' : (countP n l).length = l.length := by omega
    obtain ⟨c0, hc0⟩ : ∃ c0, rd_T35 (countP n l) 0 = c0 := ⟨_, rfl⟩
    -- none of all is odd
    have hall : ∀ x ∈ l, oddR o x c0 = false := by
      intro x hx
      have hz : (countP n l).filter (fun y => oddR o y c0) = [] := by
        rw [List.filter_eq_nil_iff]
        intro y hy
        rw [← hc0, (sameAll_iff o _).1 hsame y hy]
        decide
      have := count_same n l hcl' (fun y => oddR o y c0)
      rw [hz] at this
      have hz2 : l.filter (fun y => oddR o y c0) = [] := List.length_eq_zero_iff.1 this.symm
      rw [List.filter_eq_nil_iff] at hz2
      have := hz2 x hx
      cases h : oddR o x c0
      · rfl
      · exact absurd h this
    -- each replica once
    have hone : ∀ a : Int, (l.filter fun x => x.f0 == a).length ≤ 1 := by
      intro a
      rw [← count_same n l hcl' (fun x => x.f0 == a), count_eq]
      have := count_one l a (manyP n)
      split at this <;> omega
    have hbd : ∀ x ∈ l, 1 ≤ x.f0 ∧ x.f0 ≤ manyP n := by
      intro x hx
      have hp : 0 < (l.filter fun y => y.f0 == x.f0).length := List.length_pos_of_mem (List.mem_filter.2 ⟨hx, by simp⟩)
      rw [← count_same n l hcl' (fun y => y.f0 == x.f0)] at hp
      obtain ⟨y, hy⟩ := List.exists_mem_of_length_pos hp
      obtain ⟨hy1, hy2⟩ := List.mem_filter.1 hy
      have := (count_mem hy1).2
      rw [beq_iff_eq] at hy2
      omega
    obtain ⟨p, hsub, hp⟩ := part_ev l who hl
    have hpl : ∀ x ∈ p, x ∈ l := fun x hx => hsub.subset hx
    have hlen : (countP n p).length = p.length := by
      rw [count_eq]
      exact count_full p (manyP n) (fun a => Nat.le_trans (hsub.filter _).length_le (hone a)) (fun x hx => hbd x (hpl x hx))
    refine Ev.bind (f := fun k t353 => (regain_Decide.f n o t353).bind fun bt356 => ((regain_Quorum.f n).bind fun t368 => (if (t353.length : Int) < t368 then (some (bt356.1 == 0)) else (if 0 < (l.length : Int) then ((colloquyref06_Same.f k bt356.2.2.2.2.2.2.2.1 bt356.2.2.2.2.2.2.2.2 ((rd_T35 l 0).f1.f4.f0) ((rd_T35 l 0).f1.f4.f1)).bind fun t370 => (if bt356.1 = 2 then (if (bt356.2.1 == ((rd_T35 l 0).f1.f3.f0) && (bt356.2.2.1 == ((rd_T35 l 0).f1.f3.f1) && (bt356.2.2.2.1 == ((rd_T35 l 0).f1.f3.f2) && (bt356.2.2.2.2.1 == ((rd_T35 l 0).f1.f3.f3) && (bt356.2.2.2.2.2.1 == ((rd_T35 l 0).f1.f3.f4) && (bt356.2.2.2.2.2.2.1.toList == (((rd_T35 l 0).f1.f3.f5).toList))))))) = true then (some t370) else (some false)) else (some false))) else (none))))) hp ?_
    rw [Decide_some n o p (fun x hx => hs1 x (hpl x hx)), quorum_eq]
    simp only [Option.bind_some]
    have hcm : ∀ x ∈ countP n p, oddR o x c0 = false := fun x hx => hall x (hpl x (count_mem hx).1)
    have h0 : ¬ tb (try0 (countP n p)) = true := by
      rw [try0_tb]
      intro e
      obtain ⟨x, hx, h3⟩ := List.any_eq_true.1 e
      have := (not_odd (hcm x hx)).1
      rw [this] at h3
      cases h3
    rw [choose_eq, if_neg h0]
    by_cases hq : (p.length : Int) < quorumP n
    · simp only [if_pos hq]
      rw [if_pos (show tb (try1 n (countP n p)) = true from decide_eq_true (by omega))]
      exact Ev.now _
    · simp only [if_neg hq, if_pos (show 0 < (l.length : Int) by omega)]
      rw [if_neg (show ¬ tb (try1 n (countP n p)) = true from fun e => hq (by have := of_decide_eq_true e; omega))]
      have h2 : ¬ tb (try2 (countP n p)) = true := by
        intro e
        obtain ⟨x, hx, h2, _⟩ := try2_mem e
        have := (not_odd (hcm x hx)).1
        omega
      rw [if_neg h2]
      have hpos := quorumP_pos n
      have hy := rd0_mem (c := countP n p) (by omega)
      have y0 := not_odd (hcm _ hy)
      have h3 : sameAll o (countP n p) = true := by
        rw [sameAll_iff]
        intro x hx
        have x0 := not_odd (hcm x hx)
        refine not_odd_mk x0.1 x0.2.1 ?_ ?_
        · obtain ⟨a0, a1, a2, a3, a4, a5⟩ := x0.2.2.1
          obtain ⟨b0, b1, b2, b3, b4, b5⟩ := y0.2.2.1
          exact ⟨a0.trans b0.symm, a1.trans b1.symm, a2.trans b2.symm, a3.trans b3.symm, a4.trans b4.symm, a5.trans b5.symm⟩
        · have e1 := (sm_iff _ _ _ _).1 x0.2.2.2
          have e2 := (sm_iff _ _ _ _).1 y0.2.2.2
          exact (sm_iff _ _ _ _).2 ⟨fun i => (e1.1 i).trans (e2.1 i).symm, e1.2.trans e2.2.symm⟩
      have ht3 : try3 o (countP n p) = take10 (rd_T35 (countP n p) 0).f1 2 := by unfold try3; rw [if_pos h3]
      rw [ht3, if_pos (show tb (take10 (rd_T35 (countP n p) 0).f1 2) = true from rfl)]
      have hz : rd_T35 l 0 ∈ l := rd0_mem (by omega)
      have z0 := not_odd (hall _ hz)
      have hyl : rd_T35 (countP n p) 0 ∈ l := hpl _ (count_mem hy).1
      generalize rd_T35 (countP n p) 0 = y at y0 hyl ⊢
      generalize rd_T35 l 0 = z at z0 hz ⊢
      refine Ev.bind (f := fun _ t370 => (if (t9 (take10 y.f1 2)).1 = 2 then (if ((t9 (take10 y.f1 2)).2.1 == (z.f1.f3.f0) && ((t9 (take10 y.f1 2)).2.2.1 == (z.f1.f3.f1) && ((t9 (take10 y.f1 2)).2.2.2.1 == (z.f1.f3.f2) && ((t9 (take10 y.f1 2)).2.2.2.2.1 == (z.f1.f3.f3) && ((t9 (take10 y.f1 2)).2.2.2.2.2.1 == (z.f1.f3.f4) && ((t9 (take10 y.f1 2)).2.2.2.2.2.2.1.toList == ((z.f1.f3.f5).toList))))))) = true then (some t370) else (some false)) else (some false))) (ref_Same.ev y.f1.f4.f0 y.f1.f4.f1 z.f1.f4.f0 z.f1.f4.f1 (hs2 y hyl) (hs2 z hz)) ?_
      obtain ⟨a0, a1, a2, a3, a4, a5⟩ := z0.2.2.1
      obtain ⟨b0, b1, b2, b3, b4, b5⟩ := y0.2.2.1
      have hsm : sm y.f1.f4.f0 y.f1.f4.f1 z.f1.f4.f0 z.f1.f4.f1 = true := by
        have e1 := (sm_iff _ _ _ _).1 z0.2.2.2
        have e2 := (sm_iff _ _ _ _).1 y0.2.2.2
        exact (sm_iff _ _ _ _).2 ⟨fun i => (e2.1 i).trans (e1.1 i).symm, e2.2.trans e1.2.symm⟩
      rw [hsm]
      rw [if_pos (show (t9 (take10 y.f1 2)).1 = 2 from rfl)]
      unfold take10 t9
      dsimp only
      rw [b0, b1, b2, b3, b4, b5, a0, a1, a2, a3, a4, a5]
      simp only [beq_self_eq_true, Bool.and_self, if_true]
      exact Ev.now _
end Go.Proofs.Ytomgiaakhpemaaa.P
