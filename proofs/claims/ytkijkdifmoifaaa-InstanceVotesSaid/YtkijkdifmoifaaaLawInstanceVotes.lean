/- The plain side of the law InstanceVotes. -/
import Derived.Test.YtkijkdifmoifaaaPx0
import Derived.Test.YtkijkdifmoifaaaPx5
import Derived.Test.YtkijkdifmoifaaaPx8
import Derived.Test.YtkijkdifmoifaaaCmp
import Derived.Test.YtkijkdifmoifaaaInst
namespace Go.Proofs.Ytkijkdifmoifaaa.P
open Go.RowKit Go.Proofs.YtkijkdifmoifaaaW.PrintWords Go.Proofs.YtkijkdifmoifaaaW.PrintLast Go.Proofs.YtkijkdifmoifaaaW.PrintMore
set_option linter.unusedVariables false
/-- a step at the ballot that was voted for: what is promised is that one, too -/
theorem voted_promised (r : RecP) (bn bb : Int) (h : cmpB r.vn r.vb r.pn r.pb ≤ 0) (hl : lateB r bn bb = false) (hv : r.vn = bn ∧ r.vb = bb) : r.pn = bn ∧ r.pb = bb := by
  obtain ⟨_, l1, l2⟩ := late_false _ _ _ hl
  obtain ⟨rfl, rfl⟩ := hv
  have c0 := cmpB_cases r.vn r.vb r.pn r.pb
  omega
theorem again (z bn bb u s p c n : Int) (t : ByteArray) (q : Int) (d : List Int) (hz : z = 1 ∨ z = 2) (hg : goodB bn bb = true) (a e f g h i : Int) (v : ByteArray) (w : Int) (x : List Int) :
    voteP ⟨z, bn, bb, bn, bb, u, s, p, c, n, t, q, d⟩ z bn bb a e f g h v w x = (⟨z, bn, bb, bn, bb, u, s, p, c, n, t, q, d⟩, true) ∧ (voteP ⟨z, bn, bb, bn, bb, u, s, p, c, n, t, q, d⟩ 1 bn bb a e f g h v w x).1 = ⟨z, bn, bb, bn, bb, u, s, p, c, n, t, q, d⟩ := by
  have hl : lateB ⟨z, bn, bb, bn, bb, u, s, p, c, n, t, q, d⟩ bn bb = false := by
    unfold lateB
    have c0 := cmpB_cases bn bb bn bb
    rw [hg]
    simp only [Bool.not_true, Bool.false_or, Bool.or_eq_false_iff, decide_eq_false_iff_not]
    omega
  unfold voteP
  rw [hl]
  simp only [Bool.false_eq_true, if_false]
  refine ⟨if_pos (by simp), ?_⟩
  rcases hz with rfl | rfl
  · rw [if_pos (by simp)]
  · rw [if_neg (by simp), if_pos (by simp)]
/-- what a vote makes, told again, or told with something other -/
theorem vote_spec (r : RecP) (x o : S35) (hk : x.f0 = 1 ∨ x.f0 = 2) (h : cmpB r.vn r.vb r.pn r.pb ≤ 0) :
    ((doesP r x).2 = false → (doesP r x).1 = r) ∧ ((doesP r x).2 = true → doesP (doesP r x).1 x = ((doesP r x).1, true) ∧ (o.f0 = 1 → (doesP (doesP r x).1 ⟨o.f0, x.f1, o.f2, o.f3⟩).1 = (doesP r x).1) ∧ (doesP r x).1.vn = x.f1.f0 ∧ (doesP r x).1.vb = x.f1.f1 ∧ (doesP r x).1.pn = x.f1.f0 ∧ (doesP r x).1.pb = x.f1.f1) := by
  have ed : ∀ q : RecP, doesP q x = voteP q x.f0 x.f1.f0 x.f1.f1 x.f2.f0 x.f2.f1 x.f2.f2 x.f2.f3 x.f2.f4 x.f2.f5 x.f3.f0 x.f3.f1 := by
    intro q; unfold doesP
    rcases hk with hk | hk <;> rw [hk]
    · rw [if_neg (by decide), if_pos rfl]
    · rw [if_neg (by decide), if_neg (by decide), if_pos rfl]
  have eo : ∀ q : RecP, o.f0 = 1 → doesP q ⟨o.f0, x.f1, o.f2, o.f3⟩ = voteP q 1 x.f1.f0 x.f1.f1 o.f2.f0 o.f2.f1 o.f2.f2 o.f2.f3 o.f2.f4 o.f2.f5 o.f3.f0 o.f3.f1 := by
    intro q e; unfold doesP
    simp only [e]
    rw [if_neg (by decide), if_pos trivial]
  rw [ed r]
  cases hl : lateB r x.f1.f0 x.f1.f1 with
  | true =>
    have e : voteP r x.f0 x.f1.f0 x.f1.f1 x.f2.f0 x.f2.f1 x.f2.f2 x.f2.f3 x.f2.f4 x.f2.f5 x.f3.f0 x.f3.f1 = (r, false) := by unfold voteP; rw [hl, if_pos rfl]
    rw [e]; exact ⟨fun _ => rfl, fun e => (by cases e)⟩
  | false =>
    by_cases n1 : (r.vn = x.f1.f0 ∧ r.vb = x.f1.f1) ∧ r.st = x.f0
    · have e : voteP r x.f0 x.f1.f0 x.f1.f1 x.f2.f0 x.f2.f1 x.f2.f2 x.f2.f3 x.f2.f4 x.f2.f5 x.f3.f0 x.f3.f1 = (r, true) := by unfold voteP; rw [hl, if_neg (by simp), if_pos n1]
      rw [e]
      refine ⟨fun e => (by cases e), fun _ => ?_⟩
      obtain ⟨p1, p2⟩ := voted_promised r _ _ h hl n1.1
      refine ⟨by rw [ed r, e], fun eq => ?_, n1.1.1, n1.1.2, p1, p2⟩
      rw [eo r eq]
      unfold voteP
      rw [hl, if_neg (by simp)]
      rcases hk with hk | hk
      · rw [if_pos ⟨n1.1, by rw [n1.2, hk]⟩]
      · rw [if_neg (fun e => by have := e.2; rw [n1.2, hk] at this; cases this), if_pos ⟨n1.1, by rw [n1.2, hk], rfl⟩]
    · by_cases n2 : (r.vn = x.f1.f0 ∧ r.vb = x.f1.f1) ∧ r.st = 2 ∧ x.f0 = 1
      · have e : voteP r x.f0 x.f1.f0 x.f1.f1 x.f2.f0 x.f2.f1 x.f2.f2 x.f2.f3 x.f2.f4 x.f2.f5 x.f3.f0 x.f3.f1 = (r, false) := by unfold voteP; rw [hl, if_neg (by simp), if_neg n1, if_pos n2]
        rw [e]; exact ⟨fun _ => rfl, fun e => (by cases e)⟩
      · have e : voteP r x.f0 x.f1.f0 x.f1.f1 x.f2.f0 x.f2.f1 x.f2.f2 x.f2.f3 x.f2.f4 x.f2.f5 x.f3.f0 x.f3.f1 = (⟨x.f0, x.f1.f0, x.f1.f1, x.f1.f0, x.f1.f1, x.f2.f0, x.f2.f1, x.f2.f2, x.f2.f3, x.f2.f4, x.f2.f5, x.f3.f0, x.f3.f1⟩, true) := by unfold voteP; rw [hl, if_neg (by simp), if_neg n1, if_neg n2]
        rw [e]
        refine ⟨fun e => (by cases e), fun _ => ?_⟩
        have hg := (late_false _ _ _ hl).1
        refine ⟨?_, fun eq => ?_, rfl, rfl, rfl, rfl⟩
        · rw [ed]; exact (again x.f0 x.f1.f0 x.f1.f1 _ _ _ _ _ _ _ _ hk hg _ _ _ _ _ 0 _ _ _).1
        · rw [eo _ eq]; exact (again x.f0 x.f1.f0 x.f1.f1 _ _ _ _ _ _ _ _ hk hg _ _ _ _ _ 0 _ _ _).2
theorem does_row (r : RecP) (x : S35) (h : r.d.length ≤ 50) (h2 : x.f3.f1.length ≤ 50) : (doesP r x).1.d.length ≤ 50 := by
  unfold doesP promiseP voteP commitP
  (repeat' split) <;> first | exact h | exact h2
theorem few6_eq (q : Int) (d : List Int) : colloquylaw06_Few.f q d = some (decide ((d.length : Int) ≤ 50)) := rfl
theorem few9_eq (r : RecP) : colloquylaw09_Few.f r.st r.pn r.pb r.vn r.vb r.u r.s r.k r.c r.n r.t r.q r.d = some (decide ((r.d.length : Int) ≤ 50) && decide ((r.t.size : Int) ≤ 1000)) := by
  unfold colloquylaw09_Few.f
  by_cases h : (r.d.length : Int) ≤ 50
  · rw [if_pos h, decide_eq_true h]; rfl
  · rw [if_neg h, decide_eq_false h]; rfl
theorem InstanceVotes.pure (r : RecP) (x o : S35) : ∃ k, colloquylaw09_InstanceVotes.f k r.st r.pn r.pb r.vn r.vb r.u r.s r.k r.c r.n r.t r.q r.d x.f0 x.f1.f0 x.f1.f1 x.f2.f0 x.f2.f1 x.f2.f2 x.f2.f3 x.f2.f4 x.f2.f5 x.f3.f0 x.f3.f1 o.f0 o.f1.f0 o.f1.f1 o.f2.f0 o.f2.f1 o.f2.f2 o.f2.f3 o.f2.f4 o.f2.f5 o.f3.f0 o.f3.f1 = some true := by
  refine ⟨4, ?_⟩
  unfold colloquylaw09_InstanceVotes.f colloquylaw09_awake.f
  rw [few9_eq, few6_eq, few6_eq]
  simp only [Option.bind_some, if_true]
  have out : colloquylaw09_InstanceVotes.j0 4 true true r.st r.pn r.pb r.vn r.vb r.u r.s r.k r.c r.n r.t r.q r.d x.f0 x.f1.f0 x.f1.f1 x.f2.f0 x.f2.f1 x.f2.f2 x.f2.f3 x.f2.f4 x.f2.f5 x.f3.f0 x.f3.f1 o.f0 o.f1.f0 o.f1.f1 o.f2.f0 o.f2.f1 o.f2.f2 o.f2.f3 o.f2.f4 o.f2.f5 o.f3.f0 o.f3.f1 = some true := by simp only [colloquylaw09_InstanceVotes.j0]; rfl
  by_cases a1 : (decide ((r.d.length : Int) ≤ 50) && decide ((r.t.size : Int) ≤ 1000)) = true
  rotate_left
  · rw [if_neg a1]; exact out
  rw [if_pos a1]
  by_cases a2 : (x.f3.f1.length : Int) ≤ 50
  rotate_left
  · rw [if_neg (by simpa using a2)]; exact out
  rw [if_pos (decide_eq_true a2)]
  by_cases a3 : (o.f3.f1.length : Int) ≤ 50
  rotate_left
  · rw [if_neg (by simpa using a3)]; exact out
  rw [if_pos (decide_eq_true a3)]
  by_cases a4 : x.f0 < 1
  · rw [if_pos a4]; exact out
  rw [if_neg a4]
  by_cases a5 : x.f0 > 2
  · rw [if_pos a5]; exact out
  rw [if_neg a5, cmp_eq _ _ _ _ 1]
  simp only [Option.bind_some]
  by_cases a6 : cmpB r.vn r.vb r.pn r.pb > 0
  · rw [decide_eq_true a6]; exact out
  rw [decide_eq_false a6]
  have hd : r.d.length ≤ 50 := by
    simp only [Bool.and_eq_true, decide_eq_true_eq] at a1; omega
  obtain ⟨s1, s2⟩ := vote_spec r x o (by omega) (by omega)
  have e1 := does_eq r x 0 (by omega) (by omega)
  have hy := does_row r x hd (by omega)
  have e2 := does_eq (doesP r x).1 x 0 (by omega) (by omega)
  have e3 := does_eq (doesP r x).1 ⟨o.f0, x.f1, o.f2, o.f3⟩ 0 (by omega) (by show o.f3.f1.length ≤ _; omega)
  simp only at e3
  simp only [colloquylaw09_InstanceVotes.j0]
  rw [if_neg (by simp), e1]
  simp only [Option.bind_some, flat]
  rcases hyy : doesP r x with ⟨y, yb⟩
  rw [hyy] at s1 s2 e2 e3
  simp only at s1 s2 e2 e3 ⊢
  cases yb with
  | false =>
    rw [if_neg (by simp), s1 rfl, same_eq, sameP_refl]; rfl
  | true =>
    obtain ⟨t1, t2, t3, t4, t5, t6⟩ := s2 rfl
    rw [if_pos rfl, e2, t1]
    simp only [Option.bind_some, flat]
    rw [e3]
    simp only [Option.bind_some, flat]
    by_cases ho : o.f0 = 1
    · rw [if_pos ho, t2 ho, same_eq, sameP_refl]
      simp only [Option.bind_some]
      simp [t3, t4, t5, t6]
    · rw [if_neg ho, same_eq, sameP_refl]
      simp only [Option.bind_some]
      simp [t3, t4, t5, t6]
end Go.Proofs.Ytkijkdifmoifaaa.P
