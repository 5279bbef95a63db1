/- Plain facts for the laws of layer 10 (regain): which reports count, what is chosen; no condition but each one's own. -/
import Derived.Test.YtomgiaakhpemaaaPx0
import Derived.Test.YtomgiaakhpemaaaPx7
import Derived.Test.YtomgiaakhpemaaaPx8
import Derived.Test.YtomgiaakhpemaaaReg
namespace Go.Proofs.Ytomgiaakhpemaaa.P
open Go.RowKit Go.Proofs.YtomgiaakhpemaaaW.PrintWords Go.Proofs.YtomgiaakhpemaaaW.PrintLast Go.Proofs.YtomgiaakhpemaaaW.PrintMore
set_option linter.unusedVariables false
set_option linter.unusedSimpArgs false
def doneAt (l : List S35) (k : Nat) : Bool := match firstR l k with | some x => x.f1.f0 == 3 | none => false
def finD (n o : Int) (l : List S35) (d : Bool) : Bool := if d = true then (chooseP n o (countP n l)).1 == 1 else if (chooseP n o (countP n l)).1 = 1 then false else if (l.length : Int) ≥ quorumP n then true else (chooseP n o (countP n l)).1 == 0
theorem done_l1 (n o : Int) (l : List S35) (hl : l.length ≤ 40) (d : Bool) (b : Nat) (hb : b < 100) (r : Bool) : ∀ (q i : Nat), l.length - i ≤ q → i ≤ l.length →
    Ev (fun k => colloquylaw10_RegainDone.l0 k n o l (d || doneAt (l.drop i) b) (((b + 1 : Nat) : Int) + 1)) r → Ev (fun k => colloquylaw10_RegainDone.l1 k n o l d ((b : Int) + 1) (i : Int)) r := by
  have hw : wrap64 ((b : Int) + 1 + 1) = ((b + 1 : Nat) : Int) + 1 := by unfold wrap64; omega
  have stop : ∀ i : Nat, i = l.length → Ev (fun k => colloquylaw10_RegainDone.l0 k n o l (d || doneAt (l.drop i) b) (((b + 1 : Nat) : Int) + 1)) r → Ev (fun k => colloquylaw10_RegainDone.l1 k n o l d ((b : Int) + 1) (i : Int)) r := by
    intro i hi hE
    subst hi
    rw [List.drop_length, show doneAt [] b = false from rfl, Bool.or_false] at hE
    refine Ev.step (fun k => ?_) hE
    simp only [colloquylaw10_RegainDone.l1]
    rw [if_neg (by omega), hw]
  intro q
  induction q with
  | zero => intro i hd hi hE; exact stop i (by omega) hE
  | succ q ih =>
    intro i hd hi hE
    by_cases hlt : i < l.length
    · rw [drop_cons l i hlt] at hE
      by_cases h : (rd_T35 l (i : Int)).f0 = (b : Int) + 1
      · have hD : doneAt (rd_T35 l (i : Int) :: l.drop (i + 1)) b = ((rd_T35 l (i : Int)).f1.f0 == 3) := by unfold doneAt; rw [firstR_cons, if_pos h]
        rw [hD] at hE
        refine Ev.step (fun k => ?_) hE
        simp only [colloquylaw10_RegainDone.l1]
        rw [if_pos (by omega), if_pos (by omega), if_pos h, hw]
        cases d
        · rw [if_neg (by decide), Bool.false_or]
        · rw [if_pos rfl, Bool.true_or]
      · have hD : doneAt (rd_T35 l (i : Int) :: l.drop (i + 1)) b = doneAt (l.drop (i + 1)) b := by unfold doneAt; rw [firstR_cons, if_neg h]
        rw [hD] at hE
        refine Ev.step (fun k => ?_) (ih (i + 1) (by omega) (by omega) hE)
        simp only [colloquylaw10_RegainDone.l1]
        rw [if_pos (by omega), if_pos (by omega), if_neg h, show wrap64 ((i : Int) + 1) = ((i + 1 : Nat) : Int) by unfold wrap64; omega]
    · exact stop i (by omega) hE
theorem done_l0 (n o : Int) (l : List S35) (hl : l.length ≤ 40) (hs : ∀ x ∈ l, x.f1.f4.f1.length ≤ 17592186044416) (h7 : n ≤ 7) : ∀ (q b : Nat) (d : Bool), (b : Int) + q = n →
    Ev (fun k => colloquylaw10_RegainDone.l0 k n o l d ((b : Int) + 1)) (finD n o l (d || (List.range' b q).any (doneAt l))) := by
  intro q
  induction q with
  | zero =>
    intro b d hb
    rw [List.range'_zero, List.any_nil, Bool.or_false]
    refine Ev.step (f := fun _ => some (finD n o l d)) (fun k => ?_) (Ev.now _)
    simp only [colloquylaw10_RegainDone.l0]
    rw [if_neg (by omega), Decide_some n o l hs, quorum_eq]
    simp only [Option.bind_some]
    unfold finD
    generalize chooseP n o (countP n l) = t
    cases d
    · simp only [Bool.false_eq_true, if_false]
      by_cases c1 : t.1 = 1
      · rw [if_pos c1, if_pos c1]
      · rw [if_neg c1, if_neg c1]
        by_cases c2 : (l.length : Int) ≥ quorumP n
        · rw [if_pos c2, if_pos c2]
        · rw [if_neg c2, if_neg c2]
    · simp only [if_true]
  | succ q ih =>
    intro b d hb
    rw [List.range'_succ, List.any_cons, ← Bool.or_assoc]
    refine Ev.step (f := fun k => colloquylaw10_RegainDone.l1 k n o l d ((b : Int) + 1) 0) (fun k => ?_) ?_
    · simp only [colloquylaw10_RegainDone.l0]
      rw [if_pos (by omega)]
    · have := done_l1 n o l hl d b (by omega) _ l.length 0 (by omega) (by omega) (by rw [List.drop_zero]; exact ih (b + 1) (d || doneAt l b) (by omega))
      exact this
theorem doneAt_count (n : Int) (h1 : 1 ≤ n) (h7 : n ≤ 7) (l : List S35) : (List.range' 0 n.toNat).any (doneAt l) = tb (try0 (countP n l)) := by
  rw [try0_tb, count_eq, ← List.range_eq_range']
  have hm : manyP n = n.toNat := by have := manyP_self n h1 h7; omega
  rw [hm, Bool.eq_iff_iff, List.any_eq_true, List.any_eq_true]
  constructor
  · rintro ⟨k, hk, h⟩
    unfold doneAt at h
    cases hf : firstR l k with
    | none => rw [hf] at h; cases h
    | some x => rw [hf] at h; exact ⟨x, List.mem_filterMap.2 ⟨k, hk, hf⟩, h⟩
  · rintro ⟨x, hx, h⟩
    obtain ⟨k, hk, hf⟩ := List.mem_filterMap.1 hx
    exact ⟨k, hk, by unfold doneAt; rw [hf]; exact h⟩
theorem finD_true (n o : Int) (l : List S35) : finD n o l (tb (try0 (countP n l))) = true := by
  unfold finD
  by_cases h0 : tb (try0 (countP n l)) = true
  · rw [if_pos h0]
    obtain ⟨x, _, _, e⟩ := try0_mem h0
    rw [choose_eq, if_pos h0, e]
    rfl
  · rw [if_neg h0]
    have hk : (chooseP n o (countP n l)).1 ≠ 1 ∧ ((countP n l).length < quorumP n → (chooseP n o (countP n l)).1 = 0) := by
      rw [choose_eq, if_neg h0]
      by_cases h1 : tb (try1 n (countP n l)) = true
      · rw [if_pos h1]; exact ⟨by show (0 : Int) ≠ 1; decide, fun _ => rfl⟩
      · rw [if_neg h1]
        have hq : ¬ ((countP n l).length : Int) < quorumP n := fun h => h1 (decide_eq_true h)
        refine ⟨?_, fun h => absurd h hq⟩
        by_cases h2 : tb (try2 (countP n l)) = true
        · rw [if_pos h2]
          obtain ⟨x, _, _, e⟩ := try2_mem h2
          rw [e]; show (2 : Int) ≠ 1; decide
        · rw [if_neg h2]
          by_cases h3 : tb (try3 o (countP n l)) = true
          · rw [if_pos h3]
            rw [try3_tb] at h3
            unfold try3
            rw [if_pos h3]; show (2 : Int) ≠ 1; decide
          · rw [if_neg h3]
            by_cases h4 : tb (try4 (countP n l)) = true
            · rw [if_pos h4]; show (3 : Int) ≠ 1; decide
            · rw [if_neg h4]; show (4 : Int) ≠ 1; decide
    rw [if_neg hk.1]
    by_cases hl : (l.length : Int) ≥ quorumP n
    · rw [if_pos hl]
    · rw [if_neg hl]
      have := count_length n l
      rw [hk.2 (by omega)]
      rfl
theorem RegainDone.pure (n o : Int) (l : List S35) : ∃ k, colloquylaw10_RegainDone.f k n o l = some true := by
  suffices h : Ev (fun k => colloquylaw10_RegainDone.f k n o l) true from h.rounds
  have out : ∀ b : Bool, Ev (fun k => colloquylaw10_RegainDone.j0 k n o l true true) true := fun _ => Ev.step (f := fun _ => some true) (fun k => by simp only [colloquylaw10_RegainDone.j0]; rw [if_pos trivial]) (Ev.now _)
  unfold colloquylaw10_RegainDone.f
  rw [awake_true]
  simp only [Option.bind_some, if_true]
  refine Ev.bind (f := fun k t => if t = true then (if n < 1 then colloquylaw10_RegainDone.j0 k n o l true true else colloquylaw10_RegainDone.j0 k n o l true (decide (n > 7))) else colloquylaw10_RegainDone.j0 k n o l true true) (few_ev l) ?_
  by_cases hf : fewB l = true
  · simp only [if_pos hf]
    by_cases h1 : n < 1
    · simp only [if_pos h1]; exact out true
    · simp only [if_neg h1]
      by_cases h7 : n > 7
      · rw [decide_eq_true h7]; exact out true
      · rw [decide_eq_false h7]
        obtain ⟨hl, hs⟩ := (fewB_iff l).1 hf
        refine Ev.step (f := fun k => colloquylaw10_RegainDone.l0 k n o l false 1) (fun k => ?_) ?_
        · simp only [colloquylaw10_RegainDone.j0]; rw [if_neg (by decide)]
        · have := done_l0 n o l hl (fun x hx => Nat.le_trans (hs x hx) (by decide)) (by omega) n.toNat 0 false (by omega)
          rw [Bool.false_or, doneAt_count n (by omega) (by omega), finD_true] at this
          exact this
  · simp only [if_neg hf]; exact out true
end Go.Proofs.Ytomgiaakhpemaaa.P
