/- The plain side of the law InstanceLate. -/
import Derived.Test.YtkijkdifmoifaaaPx0
import Derived.Test.YtkijkdifmoifaaaPx5
import Derived.Test.YtkijkdifmoifaaaPx8
import Derived.Test.YtkijkdifmoifaaaPx9
import Derived.Test.YtkijkdifmoifaaaCmp
import Derived.Test.YtkijkdifmoifaaaInst
namespace Go.Proofs.Ytkijkdifmoifaaa.P
open Go.RowKit Go.Proofs.YtkijkdifmoifaaaW.PrintWords Go.Proofs.YtkijkdifmoifaaaW.PrintLast Go.Proofs.YtkijkdifmoifaaaW.PrintMore
set_option linter.unusedVariables false
/-- a step at the ballot that was voted for: what is promised is that one, too -/
theorem voted_promised_ (r : RecP) (bn bb : Int) (h : cmpB r.vn r.vb r.pn r.pb ≤ 0) (hl : lateB r bn bb = false) (hv : r.vn = bn ∧ r.vb = bb) : r.pn = bn ∧ r.pb = bb := by
  obtain ⟨_, l1, l2⟩ := late_false _ _ _ hl
  obtain ⟨rfl, rfl⟩ := hv
  have c0 := cmpB_cases r.vn r.vb r.pn r.pb
  omega
theorem few6_eq_ (q : Int) (d : List Int) : colloquylaw06_Few.f q d = some (decide ((d.length : Int) ≤ 50)) := rfl
theorem few9_eq_ (r : RecP) : colloquylaw09_Few.f r.st r.pn r.pb r.vn r.vb r.u r.s r.k r.c r.n r.t r.q r.d = some (decide ((r.d.length : Int) ≤ 50) && decide ((r.t.size : Int) ≤ 1000)) := by
  unfold colloquylaw09_Few.f
  by_cases h : (r.d.length : Int) ≤ 50
  · rw [if_pos h, decide_eq_true h]; rfl
  · rw [if_neg h, decide_eq_false h]; rfl
theorem late_spec (r : RecP) (x : S35) (hk : x.f0 = 0 ∨ x.f0 = 1 ∨ x.f0 = 2) (h : cmpB r.vn r.vb r.pn r.pb ≤ 0) :
    (lateB r x.f1.f0 x.f1.f1 = true → doesP r x = (r, false)) ∧ ((doesP r x).2 = true → (doesP r x).1.pn = x.f1.f0 ∧ (doesP r x).1.pb = x.f1.f1) := by
  unfold doesP promiseP voteP
  cases hl : lateB r x.f1.f0 x.f1.f1 with
  | true =>
    simp only [if_true]
    rcases hk with hk | hk | hk <;> rw [hk] <;> simp
  | false =>
    refine ⟨fun e => (by cases e), ?_⟩
    rcases hk with hk | hk | hk <;> rw [hk]
    · rw [if_pos rfl, if_neg (by simp)]; exact fun _ => ⟨rfl, rfl⟩
    · rw [if_neg (by decide), if_pos rfl, if_neg (by simp)]
      by_cases n1 : (r.vn = x.f1.f0 ∧ r.vb = x.f1.f1) ∧ r.st = 1
      · rw [if_pos n1]; exact fun _ => voted_promised_ r _ _ h hl n1.1
      · rw [if_neg n1]
        by_cases n2 : (r.vn = x.f1.f0 ∧ r.vb = x.f1.f1) ∧ r.st = 2 ∧ (1 : Int) = 1
        · rw [if_pos n2]; exact fun e => by cases e
        · rw [if_neg n2]; exact fun _ => ⟨rfl, rfl⟩
    · rw [if_neg (by decide), if_neg (by decide), if_pos rfl, if_neg (by simp)]
      by_cases n1 : (r.vn = x.f1.f0 ∧ r.vb = x.f1.f1) ∧ r.st = 2
      · rw [if_pos n1]; exact fun _ => voted_promised_ r _ _ h hl n1.1
      · rw [if_neg n1]
        by_cases n2 : (r.vn = x.f1.f0 ∧ r.vb = x.f1.f1) ∧ r.st = 2 ∧ (2 : Int) = 1
        · rw [if_pos n2]; exact fun e => by cases e
        · rw [if_neg n2]; exact fun _ => ⟨rfl, rfl⟩
theorem InstanceLate.pure (r : RecP) (x : S35) : ∃ k, colloquylaw09_InstanceLate.f k r.st r.pn r.pb r.vn r.vb r.u r.s r.k r.c r.n r.t r.q r.d x.f0 x.f1.f0 x.f1.f1 x.f2.f0 x.f2.f1 x.f2.f2 x.f2.f3 x.f2.f4 x.f2.f5 x.f3.f0 x.f3.f1 = some true := by
  refine ⟨4, ?_⟩
  unfold colloquylaw09_InstanceLate.f colloquylaw09_awake.f
  rw [few9_eq_, few6_eq_]
  simp only [Option.bind_some, if_true]
  have out : colloquylaw09_InstanceLate.j0 4 true true r.st r.pn r.pb r.vn r.vb r.u r.s r.k r.c r.n r.t r.q r.d x.f0 x.f1.f0 x.f1.f1 x.f2.f0 x.f2.f1 x.f2.f2 x.f2.f3 x.f2.f4 x.f2.f5 x.f3.f0 x.f3.f1 = some true := by simp only [colloquylaw09_InstanceLate.j0]; rfl
  by_cases a1 : (decide ((r.d.length : Int) ≤ 50) && decide ((r.t.size : Int) ≤ 1000)) = true
  rotate_left
  · rw [if_neg a1]; exact out
  rw [if_pos a1]
  by_cases a2 : (x.f3.f1.length : Int) ≤ 50
  rotate_left
  · rw [if_neg (by simpa using a2)]; exact out
  rw [if_pos (decide_eq_true a2)]
  by_cases a4 : x.f0 < 0
  · rw [if_pos a4]; exact out
  rw [if_neg a4]
  by_cases a5 : x.f0 > 2
  · rw [if_pos a5]; exact out
  rw [if_neg a5, cmp_eq _ _ _ _ 1]
  simp only [Option.bind_some]
  by_cases a6 : cmpB r.vn r.vb r.pn r.pb > 0
  · rw [decide_eq_true a6]; exact out
  rw [decide_eq_false a6]
  have hd : r.d.length ≤ 50 := by
    simp only [Bool.and_eq_true, decide_eq_true_eq] at a1; omega
  obtain ⟨s1, s2⟩ := late_spec r x (by omega) (by omega)
  have e1 := does_eq r x 0 (by omega) (by omega)
  simp only [colloquylaw09_InstanceLate.j0]
  rw [if_neg (by simp), e1, cmp_eq _ _ _ _ 0]
  simp only [Option.bind_some, flat]
  by_cases b1 : cmpB x.f1.f0 x.f1.f1 r.pn r.pb < 0
  · rw [if_pos b1, s1 (by unfold lateB; simp [b1])]
    rw [if_neg (by simp), same_eq, sameP_refl]; rfl
  rw [if_neg b1]
  by_cases b2 : (x.f1.f0 == 0 && (x.f1.f1 == 0)) = true
  · rw [if_pos b2, s1 (by
      have hb := b2
      simp only [Bool.and_eq_true, beq_iff_eq] at hb
      unfold lateB goodB; simp [hb.1, hb.2])]
    rw [if_neg (by simp), same_eq, sameP_refl]; rfl
  rw [if_neg b2]
  by_cases b3 : r.st = 3
  · rw [if_pos b3, s1 (by unfold lateB; simp [b3])]
    rw [if_neg (by simp), same_eq, sameP_refl]; rfl
  rw [if_neg b3]
  cases hb : (doesP r x).2 with
  | false => rfl
  | true =>
    obtain ⟨p1, p2⟩ := s2 hb
    rw [if_pos rfl]; simp [p1, p2]
end Go.Proofs.Ytkijkdifmoifaaa.P
