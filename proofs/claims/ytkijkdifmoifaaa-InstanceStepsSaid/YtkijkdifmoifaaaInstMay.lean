/- Whether what is known may be, in plain words; no condition but a row's length. -/
import Derived.Test.YtkijkdifmoifaaaPx0
import Derived.Test.YtkijkdifmoifaaaPx5
import Derived.Test.YtkijkdifmoifaaaPx6
import Derived.Test.YtkijkdifmoifaaaPx11
import Derived.Test.YtkijkdifmoifaaaPx12
import Derived.Test.YtkijkdifmoifaaaCmp
import Derived.Test.YtkijkdifmoifaaaInst
import Derived.Test.YtkijkdifmoifaaaCmd
import Derived.Test.YtkijkdifmoifaaaAttrMay
namespace Go.Proofs.Ytkijkdifmoifaaa.P
open Go.RowKit Go.Proofs.YtkijkdifmoifaaaW.PrintWords Go.Proofs.YtkijkdifmoifaaaW.PrintLast Go.Proofs.YtkijkdifmoifaaaW.PrintMore
set_option linter.unusedVariables false
def noneB (r : RecP) : Bool := (r.vn == 0 && r.vb == 0) && ((r.u == 0 && (r.s == 0 && (r.k == 0 && (r.c == 0 && (r.n == 0 && (r.t.toList == ([] : List UInt8))))))) && (decide (r.q = 0) && ((r.d.length : Int) == 0)))
def bodyB (r : RecP) (n : Int) : Bool := mayC r.u r.s r.k r.c r.n r.t && mayA r.q r.d n
def mayR (r : RecP) (n : Int) : Bool := mayB r.pn r.pb && (mayB r.vn r.vb && (!decide (cmpB r.vn r.vb r.pn r.pb > 0) && (if r.st = 0 then noneB r else if r.st = 1 ∨ r.st = 2 then goodB r.vn r.vb && bodyB r n else if r.st = 3 then bodyB r n else false)))
theorem instMay_ev (r : RecP) (n : Int) (hl : r.d.length ≤ 9223372036854775807) : Ev (fun k => instance_May.f k r.st r.pn r.pb r.vn r.vb r.u r.s r.k r.c r.n r.t r.q r.d n) (mayR r n) := by
  obtain ⟨K, hK⟩ := attr_May.ev r.q r.d n hl
  refine ⟨K + 4, fun k hk => ?_⟩
  obtain ⟨m, rfl⟩ : ∃ m, k = m + 3 := ⟨k - 3, by omega⟩
  have hA1 : attr_May.f (m + 1) r.q r.d n = some (mayA r.q r.d n) := hK (m + 1) (by omega)
  have hA0 : attr_May.f m r.q r.d n = some (mayA r.q r.d n) ∨ True := .inr trivial
  have hA2 : attr_May.f (m + 2) r.q r.d n = some (mayA r.q r.d n) := hK (m + 2) (by omega)
  have out : instance_May.j0 (m + 3) n true r.st r.pn r.pb r.vn r.vb r.u r.s r.k r.c r.n r.t r.q r.d = some false := by simp only [instance_May.j0]; rfl
  have hb : ∀ z : Bool, instance_May.j1 (m + 2) n r.st z r.st r.pn r.pb r.vn r.vb r.u r.s r.k r.c r.n r.t r.q r.d = some (if z = true then goodB r.vn r.vb && bodyB r n else if r.st = 3 then bodyB r n else false) := by
    intro z
    simp only [instance_May.j1, good_eq, cmdMay_eq, Option.bind_some, hA1]
    unfold bodyB
    cases z with
    | true =>
      cases goodB r.vn r.vb
      · rfl
      · cases mayC r.u r.s r.k r.c r.n r.t <;> rfl
    | false =>
      by_cases h3 : r.st = 3
      · simp only [Bool.false_eq_true, if_false, if_pos h3]; cases mayC r.u r.s r.k r.c r.n r.t <;> rfl
      · simp only [Bool.false_eq_true, if_false, if_neg h3]
  unfold instance_May.f mayR
  simp only [may_eq, Option.bind_some]
  cases mayB r.pn r.pb with
  | false => rw [if_neg (by simp), out]; rfl
  | true =>
    rw [if_pos rfl]
    cases mayB r.vn r.vb with
    | false => rw [if_neg (by simp), out]; rfl
    | true =>
      rw [if_pos rfl, cmp_eq]
      simp only [Option.bind_some]
      cases decide (cmpB r.vn r.vb r.pn r.pb > 0) with
      | true => rw [out]; rfl
      | false =>
        simp only [instance_May.j0]
        rw [if_neg (by simp)]
        simp only [Bool.true_and, Bool.not_false]
        by_cases h0 : r.st = 0
        · rw [if_pos h0, if_pos h0]
          unfold noneB
          cases (r.vn == 0 && r.vb == 0)
          · rfl
          · cases (r.u == 0 && (r.s == 0 && (r.k == 0 && (r.c == 0 && (r.n == 0 && (r.t.toList == ([] : List UInt8)))))))
            · rfl
            · by_cases hq : r.q = 0
              · rw [if_pos rfl, if_pos rfl, if_pos hq, decide_eq_true hq]; rfl
              · rw [if_pos rfl, if_pos rfl, if_neg hq, decide_eq_false hq]; rfl
        · rw [if_neg h0, if_neg h0]
          by_cases h1 : r.st = 1
          · rw [if_pos h1, hb, if_pos (beq_iff_eq.2 h1), if_pos (.inl h1)]
          · rw [if_neg h1, hb]
            by_cases h2 : r.st = 2
            · rw [if_pos (beq_iff_eq.2 h2), if_pos (.inr h2)]
            · rw [if_neg (show ¬ ((r.st == 2) = true) by simp [h2]), if_neg (show ¬ (r.st = 1 ∨ r.st = 2) by omega)]
theorem few6_eq' (q : Int) (d : List Int) : colloquylaw06_Few.f q d = some (decide ((d.length : Int) ≤ 50)) := rfl
theorem few9_eq' (r : RecP) : colloquylaw09_Few.f r.st r.pn r.pb r.vn r.vb r.u r.s r.k r.c r.n r.t r.q r.d = some (decide ((r.d.length : Int) ≤ 50) && decide ((r.t.size : Int) ≤ 1000)) := by
  unfold colloquylaw09_Few.f
  by_cases h : (r.d.length : Int) ≤ 50
  · rw [if_pos h, decide_eq_true h]; rfl
  · rw [if_neg h, decide_eq_false h]; rfl
theorem does_row' (r : RecP) (x : S35) (h : r.d.length ≤ 50) (h2 : x.f3.f1.length ≤ 50) : (doesP r x).1.d.length ≤ 50 := by
  unfold doesP promiseP voteP commitP
  (repeat' split) <;> first | exact h | exact h2
end Go.Proofs.Ytkijkdifmoifaaa.P
