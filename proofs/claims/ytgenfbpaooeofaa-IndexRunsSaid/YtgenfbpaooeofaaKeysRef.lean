/- The document's answer for commands and keys, for the laws of layer 8. -/
import Derived.Test.YtgenfbpaooeofaaPx0
import Derived.Test.YtgenfbpaooeofaaPx3
import Derived.Test.YtgenfbpaooeofaaPx4
import Derived.Test.YtgenfbpaooeofaaPx6
import Derived.Test.YtgenfbpaooeofaaPx7
import Derived.Test.YtgenfbpaooeofaaKeys
namespace Go.Proofs.Ytgenfbpaooeofaa.P
open Go.RowKit Go.Proofs.YtgenfbpaooeofaaW.PrintWords Go.Proofs.YtgenfbpaooeofaaW.PrintLast Go.Proofs.YtgenfbpaooeofaaW.PrintMore
set_option linter.unusedVariables false
theorem in_eq (n m : Int) : colloquyref04_in.f n m = some (decide (1 ≤ n) && decide (n ≤ m)) := by
  unfold colloquyref04_in.f
  by_cases h : 1 ≤ n <;> simp [h]
theorem numbered_eq (n : Int) : colloquyref04_numbered.f n = some (n == 5 || (n == 6 || n == 7)) := by
  unfold colloquyref04_numbered.f
  by_cases h : n = 5
  · rw [if_pos h, h]; rfl
  · rw [if_neg h]
    by_cases h2 : n = 6
    · rw [if_pos h2, h2]; rfl
    · rw [if_neg h2, beq_eq_false_iff_ne.2 h, beq_eq_false_iff_ne.2 h2]; rfl
theorem worded_eq (n : Int) : colloquyref04_worded.f n = some (n == 4 || n == 5) := by
  unfold colloquyref04_worded.f
  by_cases h : n = 4 <;> simp [h]
theorem refReads_eq (u s k c n : Int) (t : ByteArray) : colloquyref04_Reads.f u s k c n t = some (k == 7 || k == 0) := by
  unfold colloquyref04_Reads.f
  by_cases h : k = 7 <;> simp [h]
theorem refMay_eq (j : Nat) (u s k c n : Int) (t : ByteArray) (hk : k ≠ 0) : colloquyref04_May.f (j + 1) u s k c n t = some (mayC u s k c n t) := by
  unfold colloquyref04_May.f
  rw [if_neg hk]
  have out : ¬ (0 ≤ k ∧ k < 8) → mayC u s k c n t = false := fun h => by unfold mayC kindOf; rw [if_neg h]; rfl
  by_cases h0 : k < 0
  · rw [if_pos h0, out (by omega)]; simp only [colloquyref04_May.j0]; rfl
  · rw [if_neg h0]
    by_cases h8 : k ≥ 8
    · rw [decide_eq_true h8, out (by omega)]; simp only [colloquyref04_May.j0]; rfl
    · rw [decide_eq_false h8]
      simp only [colloquyref04_May.j0, in_eq, numbered_eq, worded_eq, Option.bind_some]
      unfold mayC
      generalize (t.size : Int) = z
      have : k = 1 ∨ k = 2 ∨ k = 3 ∨ k = 4 ∨ k = 5 ∨ k = 6 ∨ k = 7 := by omega
      obtain ⟨U, hU⟩ : ∃ U, (decide (1 ≤ u) && decide (u ≤ 1048576)) = U := ⟨_, rfl⟩
      obtain ⟨S, hS⟩ : ∃ U, (decide (1 ≤ s) && decide (s ≤ 1073741824)) = U := ⟨_, rfl⟩
      obtain ⟨C, hC⟩ : ∃ U, (decide (1 ≤ c) && decide (c ≤ 1048576)) = U := ⟨_, rfl⟩
      obtain ⟨N, hN⟩ : ∃ U, (decide (1 ≤ n) && decide (n ≤ 1073741824)) = U := ⟨_, rfl⟩
      obtain ⟨Z, hZ⟩ : ∃ U, (decide (1 ≤ z) && decide (z ≤ 64)) = U := ⟨_, rfl⟩
      have eU : fitB u 1048576 true = U := hU
      have eS : fitB s 1073741824 true = S := hS
      have eC : fitB c 1048576 true = C := hC
      have eN : fitB n 1073741824 true = N := hN
      have eZ : fitB z 64 true = Z := hZ
      have e2 : ∀ a m : Int, fitB a m false = (a == 0) := fun _ _ => rfl
      have q1 : kindOf 1 = (true, false, false, false, true) := rfl
      have q2 : kindOf 2 = (true, false, false, false, true) := rfl
      have q3 : kindOf 3 = (true, false, false, false, true) := rfl
      have q4 : kindOf 4 = (true, false, true, false, true) := rfl
      have q5 : kindOf 5 = (true, true, true, false, true) := rfl
      have q6 : kindOf 6 = (true, true, false, false, true) := rfl
      have q7 : kindOf 7 = (true, true, false, true, true) := rfl
      rcases this with rfl | rfl | rfl | rfl | rfl | rfl | rfl <;>
        simp only [q1, q2, q3, q4, q5, q6, q7, hU, hS, hC, hN, hZ, eU, eS, eC, eN, eZ, e2] <;>
        clear hU hS hC hN hZ eU eS eC eN eZ e2 q1 q2 q3 q4 q5 q6 q7 out <;>
        cases U <;> cases S <;> cases C <;> first | rfl | (cases N <;> cases Z <;> by_cases hn : n = 0 <;> simp [hn])
theorem refMay_zero (j : Nat) (u s c n : Int) (t : ByteArray) : ∃ b, colloquyref04_May.f (j + 1) u s 0 c n t = some b := ⟨_, by unfold colloquyref04_May.f; rw [if_pos rfl]⟩
theorem refReads_C (k : Int) (h : 0 ≤ k ∧ k < 8) : (k == 7 || k == 0) = readsC k := by
  unfold readsC kindOf
  rw [if_pos h, Bool.or_comm]
theorem may_kind (u s k c n : Int) (t : ByteArray) (h : mayC u s k c n t = true) : 0 ≤ k ∧ k < 8 := by
  by_cases g : 0 ≤ k ∧ k < 8
  · exact g
  · unfold mayC kindOf at h; rw [if_neg g] at h; simp at h
theorem refInter_eq (j : Nat) (x y : S24) : colloquyref05_Interfere.f (j + 2) x.f0 x.f1 x.f2 x.f3 x.f4 x.f5 y.f0 y.f1 y.f2 y.f3 y.f4 y.f5 = some (interB x y) := by
  unfold colloquyref05_Interfere.f
  have out : colloquyref05_Interfere.j0 (j + 2) true x.f0 x.f1 x.f2 x.f3 x.f4 x.f5 y.f0 y.f1 y.f2 y.f3 y.f4 y.f5 = some false := by simp only [colloquyref05_Interfere.j0]; rfl
  have dead : liveB x = false ∨ liveB y = false → interB x y = false := by
    rw [inter_val]; rintro (h | h) <;> simp [h]
  by_cases k1 : x.f2 = 0
  · obtain ⟨b1, e1⟩ := refMay_zero (j + 1) x.f0 x.f1 x.f3 x.f4 x.f5
    have lx : liveB x = false := by unfold liveB; simp [k1]
    rw [dead (.inl lx)]
    rw [k1] at out ⊢
    rw [e1]
    by_cases k2 : y.f2 = 0
    · obtain ⟨b2, e2⟩ := refMay_zero (j + 1) y.f0 y.f1 y.f3 y.f4 y.f5
      rw [k2] at out ⊢
      rw [e2]
      simp only [Option.bind_some, if_true]
      rw [out]; simp
    · rw [refMay_eq (j + 1) _ _ _ _ _ _ k2]
      simp only [Option.bind_some, if_true]
      rw [out]; simp
  · rw [refMay_eq (j + 1) _ _ _ _ _ _ k1]
    by_cases k2 : y.f2 = 0
    · obtain ⟨b2, e2⟩ := refMay_zero (j + 1) y.f0 y.f1 y.f3 y.f4 y.f5
      have ly : liveB y = false := by unfold liveB; simp [k2]
      rw [dead (.inr ly)]
      rw [k2] at out ⊢
      rw [e2]
      simp only [Option.bind_some]
      rw [if_neg k1, show ((0 : Int) == 0) = true from rfl, out]; simp
    · rw [refMay_eq (j + 1) _ _ _ _ _ _ k2]
      simp only [Option.bind_some]
      by_cases h : mayC x.f0 x.f1 x.f2 x.f3 x.f4 x.f5 = true
      · by_cases h2 : mayC y.f0 y.f1 y.f2 y.f3 y.f4 y.f5 = true
        · rw [if_pos h, if_pos h2, if_neg k1, beq_eq_false_iff_ne.2 k2, inter_val]
          have l1 : liveB x = true := by unfold liveB; simp [h, k1]
          have l2 : liveB y = true := by unfold liveB; simp [h2, k2]
          rw [l1, l2]
          simp only [colloquyref05_Interfere.j0, refReads_eq, Option.bind_some]
          rw [refReads_C _ (may_kind _ _ _ _ _ _ h), refReads_C _ (may_kind _ _ _ _ _ _ h2)]
          by_cases c1 : x.f0 = y.f0
          · simp [c1]
          · by_cases c2 : x.f3 = y.f3
            · cases readsC x.f2 <;> cases readsC y.f2 <;> simp [c1, c2]
            · simp [c1, c2]
        · rw [if_pos h, if_neg h2, out, dead (.inr (by unfold liveB; simp [h2]))]
      · rw [if_neg h, out, dead (.inl (by unfold liveB; simp [h]))]
end Go.Proofs.Ytgenfbpaooeofaa.P
