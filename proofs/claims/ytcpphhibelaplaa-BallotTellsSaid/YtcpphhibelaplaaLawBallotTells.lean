/- The plain side of the law BallotTells: the printed law answers true at all ballots and lists of them. -/
import Derived.Test.YtcpphhibelaplaaPx0
import Derived.Test.YtcpphhibelaplaaPx2
import Derived.Test.YtcpphhibelaplaaPx5
import Derived.Test.YtcpphhibelaplaaPx6
import Derived.Test.YtcpphhibelaplaaPx7
import Derived.Test.YtcpphhibelaplaaBallotRef
namespace Go.Proofs.Ytcpphhibelaplaa.P
open Go.RowKit Go.Proofs.YtcpphhibelaplaaW.PrintWords Go.Proofs.YtcpphhibelaplaaW.PrintLast Go.Proofs.YtcpphhibelaplaaW.PrintMore
set_option linter.unusedVariables false
theorem rd_T_at2 (l : List S23) (j : Nat) (h : j < l.length) : rd_T23 l (j : Int) = l[j] := by
  unfold rd_T23; simp [List.getD_eq_getElem?_getD, List.getElem?_eq_getElem h]
theorem refMost.ev (l : List S23) (hl : l.length ≤ 1000) : Ev (fun k => colloquyref07_Most.f k l) (mostOf l) := by
  unfold colloquyref07_Most.f
  cases l with
  | nil => simp only [List.length_nil]; exact Ev.now _
  | cons x xs =>
    have h0 : ¬ (((x :: xs).length : Int) = 0) := by simp only [List.length_cons]; omega
    have h1 : 0 < ((x :: xs).length : Int) := by simp only [List.length_cons]; omega
    simp only [if_neg h0, if_pos h1]
    have key : ∀ (d i : Nat) (m : Int × Int), i + d = (x :: xs).length → Ev (fun k => colloquyref07_Most.l0 k (x :: xs) (i : Int) m.1 m.2) (((x :: xs).drop i).foldl more1 m) := by
      intro d
      induction d with
      | zero =>
        intro i m hi
        refine Ev.step (f := fun _ => some (m.1, m.2)) (fun k => ?_) ?_
        · simp only [colloquyref07_Most.l0]; rw [if_neg (by omega)]
        · rw [List.drop_of_length_le (by omega)]; exact Ev.now _
      | succ d ih =>
        intro i m hi
        have hi' : i < (x :: xs).length := by omega
        have ew : wrap64 ((i : Int) + 1) = ((i + 1 : Nat) : Int) := by unfold wrap64; omega
        obtain ⟨K, hK⟩ := ih (i + 1) (more1 m (x :: xs)[i]) (by omega)
        refine ⟨K + 3, fun k hk => ?_⟩
        obtain ⟨n, rfl⟩ : ∃ n, k = n + 1 + 1 := ⟨k - 2, by omega⟩
        have hK' := hK (n + 1) (by omega)
        rw [List.drop_eq_getElem_cons hi', List.foldl_cons, ← hK']
        simp only [colloquyref07_Most.l0]
        rw [if_pos (by omega), if_pos (by omega), rd_T_at2 _ i hi', refCmp_eq, ew]
        simp only [Option.bind_some, more1]
        by_cases hg : cmpB (x :: xs)[i].f0 (x :: xs)[i].f1 m.1 m.2 > 0
        · simp only [if_pos hg]
        · simp only [if_neg hg]
    have := key xs.length 1 (x.f0, x.f1) (by simp; omega)
    show Ev (fun k => colloquyref07_Most.l0 k (x :: xs) 1 x.f0 x.f1) (xs.foldl more1 (x.f0, x.f1))
    simpa using this
theorem BallotTells.pure (a0 a1 b0 b1 by_ : Int) (l : List S23) : ∃ k, colloquylaw07_BallotTells.f k a0 a1 b0 b1 by_ l = some true := by
  refine Ev.rounds ?_
  unfold colloquylaw07_BallotTells.f colloquylaw07_awake.f
  simp only [Option.bind_some, if_true]
  by_cases g : (l.length : Int) > 100
  · refine Ev.step (f := fun _ => some true) (fun k => ?_) (Ev.now _)
    simp only [colloquylaw07_BallotTells.j0, decide_eq_true g]; rfl
  obtain ⟨K, hK⟩ := refMost.ev l (by omega)
  refine ⟨K + 5, fun k hk => ?_⟩
  obtain ⟨m, rfl⟩ : ∃ m, k = m + 3 + 1 := ⟨k - 4, by omega⟩
  have hM : colloquyref07_Most.f (m + 3) l = some (mostOf l) := hK (m + 3) (by omega)
  simp only [colloquylaw07_BallotTells.j0, decide_eq_false g]
  rw [if_neg (by simp)]
  simp only [next_eq, refNext_eq, may_eq, refMay_eq, cmp_eq, hM, ballot_Most.f, ballot_First.f, Option.bind_some, beq_self_eq_true, Bool.and_self, if_true]
  rw [refCmp_eq a0 a1 b0 b1 (m + 2)]
  simp
end Go.Proofs.Ytcpphhibelaplaa.P
