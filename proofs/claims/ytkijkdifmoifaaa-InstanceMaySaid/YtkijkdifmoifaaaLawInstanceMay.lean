/- Whether what is known may be, in plain words, and the plain side of the law InstanceMay. -/
import Derived.Test.YtkijkdifmoifaaaPx0
import Derived.Test.YtkijkdifmoifaaaPx5
import Derived.Test.YtkijkdifmoifaaaPx8
import Derived.Test.YtkijkdifmoifaaaPx13
import Derived.Test.YtkijkdifmoifaaaPx14
import Derived.Test.YtkijkdifmoifaaaPx18
import Derived.Test.YtkijkdifmoifaaaCmp
import Derived.Test.YtkijkdifmoifaaaInst
import Derived.Test.YtkijkdifmoifaaaCmd
import Derived.Test.YtkijkdifmoifaaaAttrMay
namespace Go.Proofs.Ytkijkdifmoifaaa.P
open Go.RowKit Go.Proofs.YtkijkdifmoifaaaW.PrintWords Go.Proofs.YtkijkdifmoifaaaW.PrintLast Go.Proofs.YtkijkdifmoifaaaW.PrintMore
set_option linter.unusedVariables false
def noneB (r : RecP) : Bool := (r.vn == 0 && r.vb == 0) && ((r.u == 0 && (r.s == 0 && (r.k == 0 && (r.c == 0 && (r.n == 0 && (r.t.toList == ([] : List UInt8))))))) && (decide (r.q = 0) && ((r.d.length : Int) == 0)))
def bodyB (r : RecP) (n : Int) : Bool := mayC r.u r.s r.k r.c r.n r.t && mayA r.q r.d n
def mayR (r : RecP) (n : Int) : Bool := mayB r.pn r.pb && (mayB r.vn r.vb && (!decide (cmpB r.vn r.vb r.pn r.pb > 0) && (if r.st = 0 then noneB r else if r.st = 1 ∨ r.st = 2 then goodB r.vn r.vb && bodyB r n else if r.st = 3 then bodyB r n else false)))
theorem instMay_ev (r : RecP) (n : Int) (hl : r.d.length ≤ 9223372036854775806) : Ev (fun k => instance_May.f k r.st r.pn r.pb r.vn r.vb r.u r.s r.k r.c r.n r.t r.q r.d n) (mayR r n) := by
  obtain ⟨K, hK⟩ := attr_May.ev r.q r.d n hl
  refine ⟨K + 4, fun k hk => ?_⟩
  obtain ⟨m, rfl⟩ : ∃ m, k = m + 3 := ⟨k - 3, by omega⟩
  have hA1 : attr_May.f (m + 1) r.q r.d n = some (mayA r.q r.d n) := hK (m + 1) (by omega)
  have hA0 : attr_May.f m r.q r.d n = some (mayA r.q r.d n) ∨ True := .inr trivial
  have hA2 : attr_May.f (m + 2) r.q r.d n = some (mayA r.q r.d n) := hK (m + 2) (by omega)
  have out : instance_May.j0 (m + 3) n true r.st r.pn r.pb r.vn r.vb r.u r.s r.k r.c r.n r.t r.q r.d = some false := by simp only [instance_May.j0]; rfl
  have hb : ∀ z : Bool, instance_May.j1 (m + 2) n r.st z r.st r.pn r.pb r.vn r.vb r.u r.s r.k r.c r.n r.t r.q r.d = some (if z = true then goodB r.vn r.vb && bodyB r n else if r.st = 3 then bodyB r n else false) := by
    intro z
    simp only [instance_May.j1, good_eq, cmdMay_eq, Option.bind_some, hA1]
    unfold bodyB
    cases z with
    | true =>
      cases goodB r.vn r.vb
      · rfl
      · cases mayC r.u r.s r.k r.c r.n r.t <;> rfl
    | false =>
      by_cases h3 : r.st = 3
      · simp only [Bool.false_eq_true, if_false, if_pos h3]; cases mayC r.u r.s r.k r.c r.n r.t <;> rfl
      · simp only [Bool.false_eq_true, if_false, if_neg h3]
  unfold instance_May.f mayR
  simp only [may_eq, Option.bind_some]
  cases mayB r.pn r.pb with
  | false => rw [if_neg (by simp), out]; rfl
  | true =>
    rw [if_pos rfl]
    cases mayB r.vn r.vb with
    | false => rw [if_neg (by simp), out]; rfl
    | true =>
      rw [if_pos rfl, cmp_eq]
      simp only [Option.bind_some]
      cases decide (cmpB r.vn r.vb r.pn r.pb > 0) with
      | true => rw [out]; rfl
      | false =>
        simp only [instance_May.j0]
        rw [if_neg (by simp)]
        simp only [Bool.true_and, Bool.not_false]
        by_cases h0 : r.st = 0
        · rw [if_pos h0, if_pos h0]
          unfold noneB
          cases (r.vn == 0 && r.vb == 0)
          · rfl
          · cases (r.u == 0 && (r.s == 0 && (r.k == 0 && (r.c == 0 && (r.n == 0 && (r.t.toList == ([] : List UInt8)))))))
            · rfl
            · by_cases hq : r.q = 0
              · rw [if_pos rfl, if_pos rfl, if_pos hq, decide_eq_true hq]; rfl
              · rw [if_pos rfl, if_pos rfl, if_neg hq, decide_eq_false hq]; rfl
        · rw [if_neg h0, if_neg h0]
          by_cases h1 : r.st = 1
          · rw [if_pos h1, hb, if_pos (beq_iff_eq.2 h1), if_pos (.inl h1)]
          · rw [if_neg h1, hb]
            by_cases h2 : r.st = 2
            · rw [if_pos (beq_iff_eq.2 h2), if_pos (.inr h2)]
            · rw [if_neg (show ¬ ((r.st == 2) = true) by simp [h2]), if_neg (show ¬ (r.st = 1 ∨ r.st = 2) by omega)]
theorem few6_eq' (q : Int) (d : List Int) : colloquylaw06_Few.f q d = some (decide ((d.length : Int) ≤ 50)) := rfl
theorem few9_eq' (r : RecP) : colloquylaw09_Few.f r.st r.pn r.pb r.vn r.vb r.u r.s r.k r.c r.n r.t r.q r.d = some (decide ((r.d.length : Int) ≤ 50) && decide ((r.t.size : Int) ≤ 1000)) := by
  unfold colloquylaw09_Few.f
  by_cases h : (r.d.length : Int) ≤ 50
  · rw [if_pos h, decide_eq_true h]; rfl
  · rw [if_neg h, decide_eq_false h]; rfl
theorem mayR_iff (r : RecP) (n : Int) : mayR r n = true ↔ mayB r.pn r.pb = true ∧ mayB r.vn r.vb = true ∧ cmpB r.vn r.vb r.pn r.pb ≤ 0 ∧ ((r.st = 0 ∧ noneB r = true) ∨ ((r.st = 1 ∨ r.st = 2) ∧ goodB r.vn r.vb = true ∧ bodyB r n = true) ∨ (r.st = 3 ∧ bodyB r n = true)) := by
  unfold mayR
  simp only [Bool.and_eq_true, Bool.not_eq_true', decide_eq_false_iff_not]
  refine and_congr_right fun _ => and_congr_right fun _ => and_congr (by omega) ?_
  by_cases h0 : r.st = 0
  · rw [if_pos h0]
    constructor
    · exact fun h => .inl ⟨h0, h⟩
    · rintro (h | h | h)
      · exact h.2
      · omega
      · omega
  · rw [if_neg h0]
    by_cases h1 : r.st = 1 ∨ r.st = 2
    · rw [if_pos h1, Bool.and_eq_true]
      constructor
      · exact fun h => .inr (.inl ⟨h1, h⟩)
      · rintro (h | h | h)
        · omega
        · exact h.2
        · omega
    · rw [if_neg h1]
      by_cases h3 : r.st = 3
      · rw [if_pos h3]
        constructor
        · exact fun h => .inr (.inr ⟨h3, h⟩)
        · rintro (h | h | h)
          · omega
          · exact absurd h.1 h1
          · exact h.2
      · rw [if_neg h3]
        constructor
        · intro h; cases h
        · rintro (h | h | h)
          · exact absurd h.1 h0
          · exact absurd h.1 h1
          · exact absurd h.1 h3
theorem good_may (n b : Int) (h : goodB n b = true) : mayB n b = true := by
  unfold goodB at h; simp only [Bool.and_eq_true] at h; exact h.2
theorem step_may (r : RecP) (x : S35) (n : Int) (h : mayR r n = true) (hv : mayC x.f2.f0 x.f2.f1 x.f2.f2 x.f2.f3 x.f2.f4 x.f2.f5 = true) (ha : mayA x.f3.f0 x.f3.f1 n = true) : mayR (doesP r x).1 n = true := by
  have hnew : ∀ z : Int, z = 1 ∨ z = 2 → lateB r x.f1.f0 x.f1.f1 = false → mayR ⟨z, x.f1.f0, x.f1.f1, x.f1.f0, x.f1.f1, x.f2.f0, x.f2.f1, x.f2.f2, x.f2.f3, x.f2.f4, x.f2.f5, x.f3.f0, x.f3.f1⟩ n = true := by
    intro z hz hl
    have hg := (late_false _ _ _ hl).1
    have c := cmpB_cases x.f1.f0 x.f1.f1 x.f1.f0 x.f1.f1
    refine (mayR_iff _ _).2 ⟨good_may _ _ hg, good_may _ _ hg, by show cmpB x.f1.f0 x.f1.f1 x.f1.f0 x.f1.f1 ≤ 0; omega, .inr (.inl ⟨hz, hg, ?_⟩)⟩
    unfold bodyB; rw [hv, ha]; rfl
  obtain ⟨m1, m2, m3, m4⟩ := (mayR_iff _ _).1 h
  unfold doesP promiseP voteP commitP
  split
  · cases hl : lateB r x.f1.f0 x.f1.f1 with
    | true => rw [if_pos rfl]; exact h
    | false =>
      rw [if_neg (by simp)]
      obtain ⟨hg, l1, l2⟩ := late_false _ _ _ hl
      have c0 := cmpB_cases r.vn r.vb r.pn r.pb
      have c1 := cmpB_cases x.f1.f0 x.f1.f1 r.pn r.pb
      have c2 := cmpB_cases r.vn r.vb x.f1.f0 x.f1.f1
      refine (mayR_iff _ _).2 ⟨good_may _ _ hg, m2, by show cmpB r.vn r.vb x.f1.f0 x.f1.f1 ≤ 0; omega, m4⟩
  · split
    · cases hl : lateB r x.f1.f0 x.f1.f1 with
      | true => rw [if_pos rfl]; exact h
      | false =>
        rw [if_neg (by simp)]
        split
        · exact h
        · split
          · exact h
          · exact hnew 1 (.inl rfl) hl
    · split
      · cases hl : lateB r x.f1.f0 x.f1.f1 with
        | true => rw [if_pos rfl]; exact h
        | false =>
          rw [if_neg (by simp)]
          split
          · exact h
          · split
            · exact h
            · exact hnew 2 (.inr rfl) hl
      · split
        · exact h
        · refine (mayR_iff _ _).2 ⟨m1, m2, m3, .inr (.inr ⟨rfl, ?_⟩)⟩
          unfold bodyB; rw [hv, ha]; rfl
theorem does_row' (r : RecP) (x : S35) (h : r.d.length ≤ 50) (h2 : x.f3.f1.length ≤ 50) : (doesP r x).1.d.length ≤ 50 := by
  unfold doesP promiseP voteP commitP
  (repeat' split) <;> first | exact h | exact h2
theorem InstanceMay.pure (r : RecP) (x : S35) (n : Int) : ∃ k, colloquylaw09_InstanceMay.f k r.st r.pn r.pb r.vn r.vb r.u r.s r.k r.c r.n r.t r.q r.d x.f0 x.f1.f0 x.f1.f1 x.f2.f0 x.f2.f1 x.f2.f2 x.f2.f3 x.f2.f4 x.f2.f5 x.f3.f0 x.f3.f1 n = some true := by
  refine Ev.rounds ?_
  unfold colloquylaw09_InstanceMay.f colloquylaw09_awake.f
  rw [few9_eq', few6_eq']
  simp only [Option.bind_some, if_true]
  have out : Ev (fun k => colloquylaw09_InstanceMay.j0 k n true true r.st r.pn r.pb r.vn r.vb r.u r.s r.k r.c r.n r.t r.q r.d x.f0 x.f1.f0 x.f1.f1 x.f2.f0 x.f2.f1 x.f2.f2 x.f2.f3 x.f2.f4 x.f2.f5 x.f3.f0 x.f3.f1) true := Ev.step (f := fun _ => some true) (fun k => by simp only [colloquylaw09_InstanceMay.j0]; rfl) (Ev.now _)
  by_cases a1 : (decide ((r.d.length : Int) ≤ 50) && decide ((r.t.size : Int) ≤ 1000)) = true
  rotate_left
  · simp only [if_neg a1]; exact out
  simp only [if_pos a1]
  by_cases a2 : (x.f3.f1.length : Int) ≤ 50
  rotate_left
  · simp only [decide_eq_false a2]; exact out
  simp only [decide_eq_true a2, if_true]
  have hd : r.d.length ≤ 50 := by
    simp only [Bool.and_eq_true, decide_eq_true_eq] at a1; omega
  refine Ev.bind (instMay_ev r n (by omega)) ?_
  cases hr : mayR r n with
  | false => exact out
  | true =>
    let vt : RecP := ⟨2, 0, 1, 0, 1, x.f2.f0, x.f2.f1, x.f2.f2, x.f2.f3, x.f2.f4, x.f2.f5, x.f3.f0, x.f3.f1⟩
    have hdx := does_row' r x hd (by omega)
    obtain ⟨K1, h1⟩ := instMay_ev vt n (by show x.f3.f1.length ≤ _; omega)
    obtain ⟨K2, h2⟩ := instMay_ev (doesP r x).1 n (by omega)
    refine ⟨K1 + K2 + 5, fun k hk => ?_⟩
    obtain ⟨m, rfl⟩ : ∃ m, k = m + 3 + 1 := ⟨k - 4, by omega⟩
    have e1 := h1 (m + 3) (by omega)
    have e2 := h2 (m + 3) (by omega)
    simp only [vt] at e1
    simp only at e2
    simp only [colloquylaw09_InstanceMay.j0, Bool.not_true]
    rw [if_neg (by simp), e1]
    simp only [Option.bind_some]
    cases hv : mayR ⟨2, 0, 1, 0, 1, x.f2.f0, x.f2.f1, x.f2.f2, x.f2.f3, x.f2.f4, x.f2.f5, x.f3.f0, x.f3.f1⟩ n with
    | false => rfl
    | true =>
      have hb : mayC x.f2.f0 x.f2.f1 x.f2.f2 x.f2.f3 x.f2.f4 x.f2.f5 = true ∧ mayA x.f3.f0 x.f3.f1 n = true := by
        rcases ((mayR_iff _ _).1 hv).2.2.2 with h | h | h
        · exact absurd h.1 (by simp)
        · have := h.2.2; unfold bodyB at this; rw [Bool.and_eq_true] at this; exact this
        · exact absurd h.1 (by simp)
      rw [if_pos rfl, does_eq r x m (by omega) (by omega)]
      simp only [Option.bind_some, flat]
      rw [e2, step_may r x n hr hb.1 hb.2]
      simp only [Option.bind_some]
      rw [if_pos trivial, same_eq, sameP_refl, same_eq, same_eq, sameP_comm]
      simp
end Go.Proofs.Ytkijkdifmoifaaa.P
