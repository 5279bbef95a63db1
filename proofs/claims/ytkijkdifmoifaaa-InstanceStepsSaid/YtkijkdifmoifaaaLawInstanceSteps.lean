/- What the document's steps (layer 9) make, in plain words, and the plain side of the law InstanceSteps. -/
import Derived.Test.YtkijkdifmoifaaaPx0
import Derived.Test.YtkijkdifmoifaaaPx5
import Derived.Test.YtkijkdifmoifaaaPx8
import Derived.Test.YtkijkdifmoifaaaPx9
import Derived.Test.YtkijkdifmoifaaaPx10
import Derived.Test.YtkijkdifmoifaaaPx11
import Derived.Test.YtkijkdifmoifaaaPx13
import Derived.Test.YtkijkdifmoifaaaPx14
import Derived.Test.YtkijkdifmoifaaaPx15
import Derived.Laws.Closers25b
import Derived.Test.YtkijkdifmoifaaaCmp
import Derived.Test.YtkijkdifmoifaaaInst
import Derived.Test.YtkijkdifmoifaaaCmd
import Derived.Test.YtkijkdifmoifaaaAttrMay
import Derived.Test.YtkijkdifmoifaaaAttrD
import Derived.Test.YtkijkdifmoifaaaAttrW
import Derived.Test.YtkijkdifmoifaaaBallotRef9
import Derived.Test.YtkijkdifmoifaaaInstMay
namespace Go.Proofs.Ytkijkdifmoifaaa.P
open Go.RowKit Go.Proofs.YtkijkdifmoifaaaW.PrintWords Go.Proofs.YtkijkdifmoifaaaW.PrintLast Go.Proofs.YtkijkdifmoifaaaW.PrintMore
set_option linter.unusedVariables false
theorem refIn_eq (a m : Int) : colloquyref04_in.f a m = some (decide (1 ≤ a) && decide (a ≤ m)) := by
  unfold colloquyref04_in.f
  by_cases h : a ≥ 1
  · rw [if_pos h, decide_eq_true (show 1 ≤ a from h)]; rfl
  · rw [if_neg h, decide_eq_false (show ¬ 1 ≤ a from h)]; rfl
theorem refNumbered_eq (k : Int) (h : 1 ≤ k ∧ k < 8) : colloquyref04_numbered.f k = some (decide (5 ≤ k)) := by
  unfold colloquyref04_numbered.f
  by_cases h5 : k = 5
  · rw [if_pos h5, decide_eq_true (by omega)]
  rw [if_neg h5]
  by_cases h6 : k = 6
  · rw [if_pos h6, decide_eq_true (by omega)]
  rw [if_neg h6]
  congr 1
  by_cases h7 : k = 7
  · rw [decide_eq_true (by omega), beq_iff_eq]; exact h7
  · rw [decide_eq_false (by omega), beq_eq_false_iff_ne]; exact h7
theorem refWorded_eq (k : Int) : colloquyref04_worded.f k = some (k == 4 || k == 5) := by
  unfold colloquyref04_worded.f
  by_cases h4 : k = 4
  · rw [if_pos h4, beq_iff_eq.2 h4]; rfl
  · rw [if_neg h4, beq_eq_false_iff_ne.2 h4]; rfl
theorem empty_size (t : ByteArray) : (t.toList == ([] : List UInt8)) = ((t.size : Int) == 0) := by
  have h1 : t.toList = [] ↔ t.size = 0 := by
    rw [toList_nil_iff_emptyBytes]
    constructor
    · intro h; rw [h]; rfl
    · intro h
      obtain ⟨d⟩ := t
      have : d = #[] := Array.eq_empty_of_size_eq_zero h
      rw [this]; rfl
  by_cases h : t.size = 0
  · rw [h1.2 h, h]; rfl
  · rw [beq_eq_false_iff_ne.2 (fun e => h (h1.1 e))]; symm; rw [beq_eq_false_iff_ne]; omega
theorem ref04_eq (u s k c n : Int) (t : ByteArray) (m : Nat) : colloquyref04_May.f (m + 1) u s k c n t = some (mayC u s k c n t) := by
  unfold colloquyref04_May.f mayC
  by_cases h0 : k = 0
  · subst h0
    rw [if_pos rfl, empty_size]
    have e : kindOf 0 = (false, false, false, true, true) := rfl
    rw [e]
    rfl
  · rw [if_neg h0]
    have out : colloquyref04_May.j0 (m + 1) true u s k c n t = some false := by simp only [colloquyref04_May.j0]; rfl
    by_cases h1 : k < 0
    · have e : kindOf k = (false, false, false, false, false) := by unfold kindOf; rw [if_neg (by omega)]
      rw [if_pos h1, out, e]; rfl
    · rw [if_neg h1]
      by_cases h8 : k ≥ 8
      · have e : kindOf k = (false, false, false, false, false) := by unfold kindOf; rw [if_neg (by omega)]
        rw [decide_eq_true h8, out, e]; rfl
      · have e : kindOf k = (true, decide (5 ≤ k), (k == 4 || k == 5), (k == 0 || k == 7), true) := by
          unfold kindOf; rw [if_pos (by omega), decide_eq_true (show 1 ≤ k by omega)]
        rw [decide_eq_false h8, e]
        simp only [colloquyref04_May.j0, refIn_eq, refNumbered_eq k (by omega), refWorded_eq, Option.bind_some, fitB, Bool.false_eq_true, if_false, if_true, Bool.true_and]
        generalize (decide (1 ≤ u) && decide (u ≤ 1048576)) = B1
        generalize (decide (1 ≤ s) && decide (s ≤ 1073741824)) = B2
        generalize (decide (1 ≤ c) && decide (c ≤ 1048576)) = B3
        generalize (decide (1 ≤ n) && decide (n ≤ 1073741824)) = B4
        generalize (decide (1 ≤ (t.size : Int)) && decide ((t.size : Int) ≤ 64)) = B5
        generalize decide (5 ≤ k) = C1
        generalize (k == 4 || k == 5) = C2
        generalize ((t.size : Int) == 0) = B6
        by_cases hn : n = 0
        · simp only [hn, beq_self_eq_true, if_true]
          cases B1 <;> cases B2 <;> cases B3 <;> cases B4 <;> cases B5 <;> cases B6 <;> cases C1 <;> cases C2 <;> rfl
        · have hb : (n == 0) = false := beq_eq_false_iff_ne.2 hn
          simp only [hn, hb, if_false]
          cases B1 <;> cases B2 <;> cases B3 <;> cases B4 <;> cases B5 <;> cases B6 <;> cases C1 <;> cases C2 <;> rfl
theorem refGood_eq (n b : Int) : colloquyref09_good.f n b = some (goodB n b) := by
  unfold colloquyref09_good.f goodB
  rw [refMay_eq]
  simp only [Option.bind_some]
  cases mayB n b with
  | true => rw [if_pos rfl, Bool.and_true]
  | false => rw [if_neg (by simp), Bool.and_false]
theorem refLate_eq (r : RecP) (bn bb : Int) (k : Nat) : colloquyref09_late.f (k + 1) r.st r.pn r.pb r.vn r.vb r.u r.s r.k r.c r.n r.t r.q r.d bn bb = some (lateB r bn bb) := by
  unfold colloquyref09_late.f lateB
  rw [refGood_eq]
  simp only [Option.bind_some]
  cases goodB bn bb with
  | false => rfl
  | true =>
    rw [if_pos rfl]
    by_cases h : r.st = 3
    · rw [if_pos h, decide_eq_true h]; rfl
    · rw [if_neg h, decide_eq_false h, refCmp_eq]; rfl
theorem refPromise_eq (r : RecP) (bn bb : Int) (k : Nat) : colloquyref09_Promise.f (k + 1) r.st r.pn r.pb r.vn r.vb r.u r.s r.k r.c r.n r.t r.q r.d bn bb = some (flat (promiseP r bn bb)) := by
  unfold colloquyref09_Promise.f promiseP
  rw [refLate_eq]
  simp only [Option.bind_some]
  cases lateB r bn bb <;> rfl
theorem voted_iff (r : RecP) (bn bb : Int) : (r.vn == bn && (r.vb == bb)) = true ↔ r.vn = bn ∧ r.vb = bb := by
  simp only [Bool.and_eq_true, beq_iff_eq]
theorem refPre_eq (r : RecP) (bn bb u s p c n : Int) (t : ByteArray) (q : Int) (d : List Int) (k : Nat) : colloquyref09_PreAccept.f (k + 2) r.st r.pn r.pb r.vn r.vb r.u r.s r.k r.c r.n r.t r.q r.d bn bb u s p c n t q d = some (flat (voteP r 1 bn bb u s p c n t q d)) := by
  unfold colloquyref09_PreAccept.f voteP
  rw [refLate_eq r bn bb (k + 1)]
  simp only [Option.bind_some]
  have hj : ∀ x : Bool, colloquyref09_PreAccept.j0 (k + 2) x r.st r.pn r.pb r.vn r.vb r.u r.s r.k r.c r.n r.t r.q r.d bn bb u s p c n t q d = some (flat (if x = true then (r, false) else if (r.vn = bn ∧ r.vb = bb) ∧ r.st = 1 then (r, true) else (⟨1, bn, bb, bn, bb, u, s, p, c, n, t, q, d⟩, true))) := by
    intro x
    rw [colloquyref09_PreAccept.j0]
    cases x with
    | true => rfl
    | false =>
      simp only [Bool.false_eq_true, if_false]
      by_cases h1 : r.st = 1
      · rw [if_pos h1]
        by_cases hv : (r.vn == bn && (r.vb == bb)) = true
        · rw [if_pos hv, if_pos (show (r.vn = bn ∧ r.vb = bb) ∧ r.st = 1 from ⟨(voted_iff r bn bb).1 hv, h1⟩)]; rfl
        · rw [if_neg hv, if_neg (show ¬ ((r.vn = bn ∧ r.vb = bb) ∧ r.st = 1) from fun e => hv ((voted_iff r bn bb).2 e.1))]; rfl
      · rw [if_neg h1, if_neg (show ¬ ((r.vn = bn ∧ r.vb = bb) ∧ r.st = 1) from fun e => h1 e.2)]; rfl
  cases lateB r bn bb with
  | true => rw [if_pos rfl, if_pos rfl, hj, if_pos rfl]
  | false =>
    simp only [Bool.false_eq_true, if_false]
    by_cases h2 : r.st = 2
    · rw [if_pos h2, hj]
      by_cases hv : (r.vn == bn && (r.vb == bb)) = true
      · rw [if_pos hv, if_neg (show ¬ ((r.vn = bn ∧ r.vb = bb) ∧ r.st = 1) by omega), if_pos (show (r.vn = bn ∧ r.vb = bb) ∧ r.st = 2 ∧ True from ⟨(voted_iff r bn bb).1 hv, h2, trivial⟩)]
      · have hn := fun e => hv ((voted_iff r bn bb).2 e)
        rw [if_neg hv, if_neg (show ¬ ((r.vn = bn ∧ r.vb = bb) ∧ r.st = 1) from fun e => hn e.1), if_neg (show ¬ ((r.vn = bn ∧ r.vb = bb) ∧ r.st = 1) from fun e => hn e.1), if_neg (show ¬ ((r.vn = bn ∧ r.vb = bb) ∧ r.st = 2 ∧ True) from fun e => hn e.1)]
    · rw [if_neg h2, hj, if_neg (by simp)]
      by_cases h1 : (r.vn = bn ∧ r.vb = bb) ∧ r.st = 1
      · rw [if_pos h1, if_pos h1]
      · rw [if_neg h1, if_neg h1, if_neg (show ¬ ((r.vn = bn ∧ r.vb = bb) ∧ r.st = 2 ∧ True) from fun e => h2 e.2.1)]
theorem refAcc_eq (r : RecP) (bn bb u s p c n : Int) (t : ByteArray) (q : Int) (d : List Int) (k : Nat) : colloquyref09_Accept.f (k + 1) r.st r.pn r.pb r.vn r.vb r.u r.s r.k r.c r.n r.t r.q r.d bn bb u s p c n t q d = some (flat (voteP r 2 bn bb u s p c n t q d)) := by
  unfold colloquyref09_Accept.f voteP
  rw [refLate_eq]
  simp only [Option.bind_some]
  cases lateB r bn bb with
  | true => rfl
  | false =>
    simp only [Bool.false_eq_true, if_false]
    have n3 : ¬ ((r.vn = bn ∧ r.vb = bb) ∧ r.st = 2 ∧ (2 : Int) = 1) := fun e => absurd e.2.2 (by decide)
    by_cases h2 : r.st = 2
    · rw [if_pos h2]
      by_cases hv : (r.vn == bn && (r.vb == bb)) = true
      · rw [if_pos hv, if_pos (show (r.vn = bn ∧ r.vb = bb) ∧ r.st = 2 from ⟨(voted_iff r bn bb).1 hv, h2⟩)]; rfl
      · rw [if_neg hv, if_neg (show ¬ ((r.vn = bn ∧ r.vb = bb) ∧ r.st = 2) from fun e => hv ((voted_iff r bn bb).2 e.1)), if_neg n3]; rfl
    · rw [if_neg h2, if_neg (show ¬ ((r.vn = bn ∧ r.vb = bb) ∧ r.st = 2) from fun e => h2 e.2), if_neg n3]; rfl
theorem refCommit_eq (r : RecP) (u s p c n : Int) (t : ByteArray) (q : Int) (d : List Int) : colloquyref09_Commit.f r.st r.pn r.pb r.vn r.vb r.u r.s r.k r.c r.n r.t r.q r.d u s p c n t q d = some (flat1 (commitP r u s p c n t q d)) := by
  unfold colloquyref09_Commit.f commitP
  by_cases hc : r.st = 3
  · rw [if_pos hc, if_pos hc]; rfl
  · rw [if_neg hc, if_neg hc]; rfl
theorem did_eq (r : RecP) (x : S35) (k : Nat) : colloquylaw09_did.f (k + 2) r.st r.pn r.pb r.vn r.vb r.u r.s r.k r.c r.n r.t r.q r.d x.f0 x.f1.f0 x.f1.f1 x.f2.f0 x.f2.f1 x.f2.f2 x.f2.f3 x.f2.f4 x.f2.f5 x.f3.f0 x.f3.f1 = some (flat (doesP r x)) := by
  unfold colloquylaw09_did.f doesP
  by_cases h0 : x.f0 = 0
  · rw [if_pos h0, if_pos h0, refPromise_eq]; rfl
  · rw [if_neg h0, if_neg h0]
    by_cases h1 : x.f0 = 1
    · rw [if_pos h1, if_pos h1, refPre_eq]; rfl
    · rw [if_neg h1, if_neg h1]
      by_cases h2' : x.f0 = 2
      · rw [if_pos h2', if_pos h2', refAcc_eq]; rfl
      · rw [if_neg h2', if_neg h2', refCommit_eq]; rfl
theorem refSame_ev (x y : RecP) (h1 : x.d.length ≤ 50) (h2 : y.d.length ≤ 50) : Ev (fun k => colloquyref09_Same.f k x.st x.pn x.pb x.vn x.vb x.u x.s x.k x.c x.n x.t x.q x.d y.st y.pn y.pb y.vn y.vb y.u y.s y.k y.c y.n y.t y.q y.d) (sameP x y) := by
  obtain ⟨K, hK⟩ := ref_Same.ev x.q x.d y.q y.d (by omega) (by omega)
  refine ⟨K, fun k hk => ?_⟩
  have h := hK k hk
  simp only at h
  unfold colloquyref09_Same.f sameP
  dsimp only
  rw [h]
  have e : sameA x.q x.d y.q y.d = sm x.q x.d y.q y.d := rfl
  rw [e]
  simp only [Option.bind_some]
  by_cases hs : x.st = y.st
  · rw [if_pos hs, decide_eq_true hs]
    cases sm x.q x.d y.q y.d <;> cases (x.pn == y.pn && (x.pb == y.pb)) <;> cases (x.vn == y.vn && (x.vb == y.vb)) <;> cases (x.u == y.u && (x.s == y.s && (x.k == y.k && (x.c == y.c && (x.n == y.n && (x.t.toList == y.t.toList)))))) <;> rfl
  · rw [if_neg hs, decide_eq_false hs]
    cases sm x.q x.d y.q y.d <;> rfl
theorem refMayR_ev (r : RecP) (n : Int) : Ev (fun k => colloquyref09_May.f k r.st r.pn r.pb r.vn r.vb r.u r.s r.k r.c r.n r.t r.q r.d n) (mayR r n) := by
  obtain ⟨K, hK⟩ := ref_May.ev r.q r.d n
  refine ⟨K + 4, fun k hk => ?_⟩
  obtain ⟨m, rfl⟩ : ∃ m, k = m + 2 := ⟨k - 2, by omega⟩
  have hA1 : colloquyref06_May.f (m + 1) r.q r.d n = some (mayA r.q r.d n) := hK (m + 1) (by omega)
  have out : colloquyref09_May.j0 (m + 2) n true r.st r.pn r.pb r.vn r.vb r.u r.s r.k r.c r.n r.t r.q r.d = some false := by simp only [colloquyref09_May.j0]; rfl
  unfold colloquyref09_May.f mayR
  simp only [refMay_eq, Option.bind_some]
  cases mayB r.pn r.pb with
  | false => rw [if_neg (by simp), out]; rfl
  | true =>
    cases mayB r.vn r.vb with
    | false => rw [if_pos rfl, if_neg (by simp), out]; rfl
    | true =>
      rw [if_pos rfl, if_pos rfl, refCmp_eq]
      simp only [Option.bind_some]
      by_cases hc : cmpB r.vn r.vb r.pn r.pb > 0
      · rw [if_pos hc, out, decide_eq_true hc]; rfl
      · rw [if_neg hc, decide_eq_false hc]
        simp only [Bool.true_and, Bool.not_false]
        by_cases hl : r.st < 0
        · rw [if_pos hl, out, if_neg (by omega), if_neg (by omega), if_neg (by omega)]
        · rw [if_neg hl]
          by_cases hg : r.st > 3
          · rw [decide_eq_true hg, out, if_neg (by omega), if_neg (by omega), if_neg (by omega)]
          · rw [decide_eq_false hg]
            simp only [colloquyref09_May.j0]
            rw [if_neg (by simp)]
            by_cases h0 : r.st = 0
            · rw [if_pos h0, if_pos h0]
              unfold noneB
              cases (r.vn == 0 && r.vb == 0)
              · rfl
              · cases (r.u == 0 && (r.s == 0 && (r.k == 0 && (r.c == 0 && (r.n == 0 && (r.t.toList == ([] : List UInt8)))))))
                · rfl
                · by_cases hq : r.q = 0
                  · rw [if_pos rfl, if_pos rfl, if_pos hq, decide_eq_true hq]; rfl
                  · rw [if_pos rfl, if_pos rfl, if_neg hq, decide_eq_false hq]; rfl
            · rw [if_neg h0, if_neg h0, ref04_eq, hA1, refGood_eq]
              simp only [Option.bind_some]
              unfold bodyB
              by_cases h3 : r.st = 3
              · rw [if_neg (show ¬ (r.st = 1 ∨ r.st = 2) by omega), if_pos h3, beq_iff_eq.2 h3]
                cases mayC r.u r.s r.k r.c r.n r.t <;> cases mayA r.q r.d n <;> cases goodB r.vn r.vb <;> rfl
              · rw [if_pos (show r.st = 1 ∨ r.st = 2 by omega), beq_eq_false_iff_ne.2 h3]
                cases mayC r.u r.s r.k r.c r.n r.t <;> cases mayA r.q r.d n <;> cases goodB r.vn r.vb <;> rfl
theorem InstanceSteps.pure (r : RecP) (x : S35) (o : RecP) (n : Int) : ∃ k, colloquylaw09_InstanceSteps.f k r.st r.pn r.pb r.vn r.vb r.u r.s r.k r.c r.n r.t r.q r.d x.f0 x.f1.f0 x.f1.f1 x.f2.f0 x.f2.f1 x.f2.f2 x.f2.f3 x.f2.f4 x.f2.f5 x.f3.f0 x.f3.f1 o.st o.pn o.pb o.vn o.vb o.u o.s o.k o.c o.n o.t o.q o.d n = some true := by
  refine Ev.rounds ?_
  unfold colloquylaw09_InstanceSteps.f colloquylaw09_awake.f
  rw [few9_eq', few9_eq', few6_eq']
  simp only [Option.bind_some, if_true]
  have out : Ev (fun k => colloquylaw09_InstanceSteps.j0 k n true true r.st r.pn r.pb r.vn r.vb r.u r.s r.k r.c r.n r.t r.q r.d x.f0 x.f1.f0 x.f1.f1 x.f2.f0 x.f2.f1 x.f2.f2 x.f2.f3 x.f2.f4 x.f2.f5 x.f3.f0 x.f3.f1 o.st o.pn o.pb o.vn o.vb o.u o.s o.k o.c o.n o.t o.q o.d) true := Ev.step (f := fun _ => some true) (fun k => by simp only [colloquylaw09_InstanceSteps.j0]; rfl) (Ev.now _)
  by_cases a1 : (decide ((r.d.length : Int) ≤ 50) && decide ((r.t.size : Int) ≤ 1000)) = true
  rotate_left
  · simp only [if_neg a1]; exact out
  simp only [if_pos a1]
  by_cases a3 : (decide ((o.d.length : Int) ≤ 50) && decide ((o.t.size : Int) ≤ 1000)) = true
  rotate_left
  · simp only [if_neg a3]; exact out
  simp only [if_pos a3]
  by_cases a2 : (x.f3.f1.length : Int) ≤ 50
  rotate_left
  · simp only [decide_eq_false a2]; exact out
  simp only [decide_eq_true a2]
  have hd : r.d.length ≤ 50 := by
    simp only [Bool.and_eq_true, decide_eq_true_eq] at a1; omega
  have ho : o.d.length ≤ 50 := by
    simp only [Bool.and_eq_true, decide_eq_true_eq] at a3; omega
  have hdx := does_row' r x hd (by omega)
  obtain ⟨K1, h1⟩ := refSame_ev (doesP r x).1 (doesP r x).1 hdx hdx
  obtain ⟨K2, h2⟩ := instMay_ev r n (by omega)
  obtain ⟨K3, h3⟩ := refMayR_ev r n
  obtain ⟨K4, h4⟩ := refSame_ev r o hd ho
  refine ⟨K1 + K2 + K3 + K4 + 5, fun k hk => ?_⟩
  obtain ⟨m, rfl⟩ : ∃ m, k = m + 3 + 1 := ⟨k - 4, by omega⟩
  have e1 := h1 (m + 3) (by omega)
  have e2 := h2 (m + 3) (by omega)
  have e3 := h3 (m + 3) (by omega)
  have e4 := h4 (m + 3) (by omega)
  simp only at e1 e2 e3 e4
  simp only [colloquylaw09_InstanceSteps.j0, Bool.not_true]
  rw [if_neg (by simp), does_eq r x m (by omega) (by omega), did_eq r x (m + 1)]
  simp only [Option.bind_some, flat]
  rw [e1, sameP_refl, e2, e3, e4, same_eq]
  simp
end Go.Proofs.Ytkijkdifmoifaaa.P
