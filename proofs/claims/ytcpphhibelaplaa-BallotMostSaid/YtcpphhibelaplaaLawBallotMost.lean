/- The plain side of the law BallotMost: the printed law answers true at all lists of ballots. -/
import Derived.Test.YtcpphhibelaplaaPx0
import Derived.Test.YtcpphhibelaplaaPx2
import Derived.Test.YtcpphhibelaplaaPx4
import Derived.Test.YtcpphhibelaplaaPx5
import Derived.Test.YtcpphhibelaplaaBallot
namespace Go.Proofs.Ytcpphhibelaplaa.P
open Go.RowKit Go.Proofs.YtcpphhibelaplaaW.PrintWords Go.Proofs.YtcpphhibelaplaaW.PrintLast Go.Proofs.YtcpphhibelaplaaW.PrintMore
set_option linter.unusedVariables false
theorem rd_T_at (l : List S23) (j : Nat) (h : j < l.length) : rd_T23 l (j : Int) = l[j] := by
  unfold rd_T23; simp [List.getD_eq_getElem?_getD, List.getElem?_eq_getElem h]
theorem cmpB_trans {a0 a1 b0 b1 c0 c1 : Int} (h : cmpB a0 a1 b0 b1 ≤ 0) (k : cmpB b0 b1 c0 c1 ≤ 0) : cmpB a0 a1 c0 c1 ≤ 0 := by
  have h1 := cmpB_cases a0 a1 b0 b1
  have h2 := cmpB_cases b0 b1 c0 c1
  have h3 := cmpB_cases a0 a1 c0 c1
  omega
theorem foldl_most (xs : List S23) : ∀ m : Int × Int, cmpB m.1 m.2 (xs.foldl more1 m).1 (xs.foldl more1 m).2 ≤ 0 ∧ (∀ x, x ∈ xs → cmpB x.f0 x.f1 (xs.foldl more1 m).1 (xs.foldl more1 m).2 ≤ 0) ∧ ((xs.foldl more1 m) = m ∨ ∃ x, x ∈ xs ∧ (xs.foldl more1 m) = (x.f0, x.f1)) := by
  induction xs with
  | nil => intro m; refine ⟨?_, by simp, .inl rfl⟩; have := cmpB_cases m.1 m.2 m.1 m.2; simp only [List.foldl_nil]; omega
  | cons x xs ih =>
    intro m
    obtain ⟨h1, h2, h3⟩ := ih (more1 m x)
    rw [List.foldl_cons]
    have hm : cmpB m.1 m.2 (more1 m x).1 (more1 m x).2 ≤ 0 ∧ cmpB x.f0 x.f1 (more1 m x).1 (more1 m x).2 ≤ 0 := by
      unfold more1
      by_cases h : cmpB x.f0 x.f1 m.1 m.2 > 0
      · rw [if_pos h]
        have a := cmpB_cases x.f0 x.f1 m.1 m.2
        have b := cmpB_cases m.1 m.2 x.f0 x.f1
        have c := cmpB_cases x.f0 x.f1 x.f0 x.f1
        simp only; omega
      · rw [if_neg h]
        have c := cmpB_cases m.1 m.2 m.1 m.2
        omega
    refine ⟨cmpB_trans hm.1 h1, fun y hy => ?_, ?_⟩
    · rcases List.mem_cons.1 hy with rfl | hy
      · exact cmpB_trans hm.2 h1
      · exact h2 y hy
    · rcases h3 with h3 | ⟨y, hy, h3⟩
      · rw [h3]
        unfold more1
        split
        · exact .inr ⟨x, by simp, rfl⟩
        · exact .inl rfl
      · exact .inr ⟨y, by simp [hy], h3⟩
theorem mostOf_spec (l : List S23) (h : l ≠ []) : (∀ x, x ∈ l → cmpB x.f0 x.f1 (mostOf l).1 (mostOf l).2 ≤ 0) ∧ ∃ x, x ∈ l ∧ mostOf l = (x.f0, x.f1) := by
  cases l with
  | nil => exact absurd rfl h
  | cons x xs =>
    obtain ⟨h1, h2, h3⟩ := foldl_most xs (x.f0, x.f1)
    refine ⟨fun y hy => ?_, ?_⟩
    · rcases List.mem_cons.1 hy with rfl | hy
      · exact h1
      · exact h2 y hy
    · rcases h3 with h3 | ⟨y, hy, h3⟩
      · exact ⟨x, by simp, h3⟩
      · exact ⟨y, by simp [hy], h3⟩
theorem BallotMost.pure (l : List S23) (hl : l.length ≤ 9223372036854775807) : ∃ k, colloquylaw07_BallotMost.f k l = some true := by
  refine Ev.rounds ?_
  unfold colloquylaw07_BallotMost.f colloquylaw07_awake.f
  simp only [Option.bind_some, if_true]
  have out : Ev (fun k => colloquylaw07_BallotMost.j0 k l true true) true := Ev.step (f := fun _ => some true) (fun k => by simp only [colloquylaw07_BallotMost.j0]; rfl) (Ev.now _)
  by_cases g1 : (l.length : Int) > 100
  · simp only [if_pos g1]; exact out
  simp only [if_neg g1]
  by_cases g0 : (l.length : Int) = 0
  · simp only [g0, beq_self_eq_true]; exact out
  rw [show ((l.length : Int) == 0) = false from beq_eq_false_iff_ne.2 g0]
  have hne : l ≠ [] := by rintro rfl; exact g0 rfl
  obtain ⟨hall, x, hx, hm⟩ := mostOf_spec l hne
  refine Ev.step (f := fun k => colloquylaw07_BallotMost.l0 k l false 0 (mostOf l).1 (mostOf l).2) (fun k => ?_) ?_
  · simp only [colloquylaw07_BallotMost.j0, ballot_Most.f, Option.bind_some]; simp
  have key : ∀ (d i : Nat) (b : Bool), i + d = l.length → (b = true ∨ ∃ y, y ∈ l.drop i ∧ mostOf l = (y.f0, y.f1)) → Ev (fun k => colloquylaw07_BallotMost.l0 k l b (i : Int) (mostOf l).1 (mostOf l).2) true := by
    intro d
    induction d with
    | zero =>
      intro i b hi hb
      rcases hb with rfl | ⟨y, hy, _⟩
      · refine Ev.step (f := fun _ => some true) (fun k => ?_) (Ev.now _)
        simp only [colloquylaw07_BallotMost.l0]; rw [if_neg (by omega)]
      · rw [List.drop_of_length_le (by omega)] at hy; simp at hy
    | succ d ih =>
      intro i b hi hb
      have hi' : i < l.length := by omega
      have hc := hall l[i] (List.getElem_mem hi')
      have ew : wrap64 ((i : Int) + 1) = ((i + 1 : Nat) : Int) := by unfold wrap64; omega
      have ec : ∀ k, (ballot_Cmp.f (k + 3) l[i].f0 l[i].f1 (mostOf l).1 (mostOf l).2) = some (cmpB l[i].f0 l[i].f1 (mostOf l).1 (mostOf l).2) := fun k => cmp_eq ..
      have ec' : ∀ k, 3 ≤ k → (ballot_Cmp.f k l[i].f0 l[i].f1 (mostOf l).1 (mostOf l).2) = some (cmpB l[i].f0 l[i].f1 (mostOf l).1 (mostOf l).2) := fun k hk => by
        have := ec (k - 3); rwa [show k - 3 + 3 = k by omega] at this
      cases b with
      | true =>
        obtain ⟨K, hK⟩ := ih (i + 1) true (by omega) (.inl rfl)
        refine ⟨K + 4, fun k hk => ?_⟩
        obtain ⟨m, rfl⟩ : ∃ m, k = m + 1 := ⟨k - 1, by omega⟩
        simp only [colloquylaw07_BallotMost.l0]
        rw [if_pos (by omega), if_pos trivial, if_pos (by omega), rd_T_at l i hi', ec' m (by omega)]
        simp only [Option.bind_some]
        rw [if_neg (by omega), ew]; exact hK m (by omega)
      | false =>
        have hb' : (l[i].f0 == (mostOf l).1 && l[i].f1 == (mostOf l).2) = true ∨ ∃ y, y ∈ l.drop (i + 1) ∧ mostOf l = (y.f0, y.f1) := by
          rcases hb with hb | ⟨y, hy, hy2⟩
          · cases hb
          · rw [List.drop_eq_getElem_cons hi', List.mem_cons] at hy
            rcases hy with rfl | hy
            · left; rw [hy2]; simp
            · exact .inr ⟨y, hy, hy2⟩
        obtain ⟨K, hK⟩ := ih (i + 1) _ (by omega) hb'
        refine ⟨K + 4, fun k hk => ?_⟩
        obtain ⟨m, rfl⟩ : ∃ m, k = m + 1 := ⟨k - 1, by omega⟩
        simp only [colloquylaw07_BallotMost.l0]
        rw [if_pos (by omega), if_neg (by simp), if_pos (by omega), rd_T_at l i hi', ec' m (by omega)]
        simp only [Option.bind_some]
        rw [if_neg (by omega), ew]; exact hK m (by omega)
  exact key l.length 0 false (by omega) (.inr ⟨x, by simpa using hx, hm⟩)
end Go.Proofs.Ytcpphhibelaplaa.P
