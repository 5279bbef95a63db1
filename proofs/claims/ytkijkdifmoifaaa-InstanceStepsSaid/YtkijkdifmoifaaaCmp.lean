/- What a comparison of two ballots tells, in plain numbers; no condition. -/
import Derived.Test.YtkijkdifmoifaaaPx0
import Derived.Test.YtkijkdifmoifaaaPx3
namespace Go.Proofs.Ytkijkdifmoifaaa.P
open Go.RowKit Go.Proofs.YtkijkdifmoifaaaW.PrintWords Go.Proofs.YtkijkdifmoifaaaW.PrintLast Go.Proofs.YtkijkdifmoifaaaW.PrintMore
set_option linter.unusedVariables false
def cmpI (a b : Int) : Int := if a < b then -1 else if a > b then 1 else 0
def cmpB (a0 a1 b0 b1 : Int) : Int := if cmpI a0 b0 = 0 then cmpI a1 b1 else cmpI a0 b0
theorem compare_eq (a b : Int) : cmp_Compare_int.f a b = some (cmpI a b) := by
  unfold cmp_Compare_int.f cmp_isNaN_int.f cmpI
  simp only [bne_self_eq_false, Option.bind_some]
  simp
  split
  · rfl
  · split <;> rfl
theorem or_eq (a b : Int) (k : Nat) : cmp_Or_int.f (k + 3) [a, b] = some (if a = 0 then b else a) := by
  unfold cmp_Or_int.f
  by_cases h : a = 0
  · by_cases h2 : b = 0
    · subst h h2; simp [cmp_Or_int.l0, rd, wrap64]
    · subst h; simp [cmp_Or_int.l0, rd, wrap64, h2]
  · simp [cmp_Or_int.l0, rd, h]
theorem cmp_eq (a0 a1 b0 b1 : Int) (k : Nat) : ballot_Cmp.f (k + 3) a0 a1 b0 b1 = some (cmpB a0 a1 b0 b1) := by
  unfold ballot_Cmp.f
  simp only [compare_eq, Option.bind_some, or_eq]
  rfl
theorem cmpI_cases (a b : Int) : (a < b ∧ cmpI a b = -1) ∨ (a = b ∧ cmpI a b = 0) ∨ (b < a ∧ cmpI a b = 1) := by
  unfold cmpI
  rcases Int.lt_trichotomy a b with h | h | h
  · exact .inl ⟨h, by rw [if_pos h]⟩
  · exact .inr (.inl ⟨h, by rw [if_neg (by omega), if_neg (by omega)]⟩)
  · exact .inr (.inr ⟨h, by rw [if_neg (by omega), if_pos h]⟩)
/-- what a comparison tells -/
theorem cmpB_cases (a0 a1 b0 b1 : Int) : ((a0 < b0 ∨ a0 = b0 ∧ a1 < b1) ∧ cmpB a0 a1 b0 b1 = -1) ∨ ((a0 = b0 ∧ a1 = b1) ∧ cmpB a0 a1 b0 b1 = 0) ∨ ((b0 < a0 ∨ a0 = b0 ∧ b1 < a1) ∧ cmpB a0 a1 b0 b1 = 1) := by
  unfold cmpB
  rcases cmpI_cases a0 b0 with ⟨h, e⟩ | ⟨h, e⟩ | ⟨h, e⟩
  · rw [e, if_neg (by omega)]; omega
  · rw [e, if_pos rfl]
    rcases cmpI_cases a1 b1 with ⟨h2, e2⟩ | ⟨h2, e2⟩ | ⟨h2, e2⟩ <;> rw [e2] <;> omega
  · rw [e, if_neg (by omega)]; omega
def mayB (n b : Int) : Bool := (n == 0 && b == 0) || (decide (1 ≤ b) && decide (b ≤ 7) && (decide (0 ≤ n) && decide (n ≤ 1073741824)))
theorem may_eq (n b : Int) : ballot_May.f n b = some (mayB n b) := by
  unfold ballot_May.f ballot_replica.f mayB
  cases h0 : (n == 0 && b == 0)
  · by_cases h1 : 1 ≤ b
    · by_cases h2 : b ≤ 7
      · by_cases h3 : 0 ≤ n <;> simp [h1, h2, h3]
      · simp [h1, h2]
    · simp [h1]
  · simp
end Go.Proofs.Ytkijkdifmoifaaa.P
