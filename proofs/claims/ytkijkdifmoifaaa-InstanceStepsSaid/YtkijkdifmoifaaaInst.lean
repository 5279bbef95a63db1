/- What a replica knows of an instance, in plain words, and what each step makes of it; no condition but a row's length. -/
import Derived.Test.YtkijkdifmoifaaaPx0
import Derived.Test.YtkijkdifmoifaaaPx3
import Derived.Test.YtkijkdifmoifaaaPx4
import Derived.Test.YtkijkdifmoifaaaPx5
import Derived.Test.YtkijkdifmoifaaaPx6
import Derived.Test.YtkijkdifmoifaaaCmp
namespace Go.Proofs.Ytkijkdifmoifaaa.P
open Go.RowKit Go.Proofs.YtkijkdifmoifaaaW.PrintWords Go.Proofs.YtkijkdifmoifaaaW.PrintLast Go.Proofs.YtkijkdifmoifaaaW.PrintMore
set_option linter.unusedVariables false
/-- what a replica knows of an instance -/
structure RecP where
  st : Int
  pn : Int
  pb : Int
  vn : Int
  vb : Int
  u : Int
  s : Int
  k : Int
  c : Int
  n : Int
  t : ByteArray
  q : Int
  d : List Int
def flat (x : RecP × Bool) : Int × Int × Int × Int × Int × Int × Int × Int × Int × Int × ByteArray × Int × List Int × Bool := (x.1.st, x.1.pn, x.1.pb, x.1.vn, x.1.vb, x.1.u, x.1.s, x.1.k, x.1.c, x.1.n, x.1.t, x.1.q, x.1.d, x.2)
def flat1 (x : RecP) : Int × Int × Int × Int × Int × Int × Int × Int × Int × Int × ByteArray × Int × List Int := (x.st, x.pn, x.pb, x.vn, x.vb, x.u, x.s, x.k, x.c, x.n, x.t, x.q, x.d)
def goodB (n b : Int) : Bool := (!(n == 0) || !(b == 0)) && mayB n b
def lateB (r : RecP) (bn bb : Int) : Bool := !goodB bn bb || (decide (r.st = 3) || decide (cmpB bn bb r.pn r.pb < 0))
def promiseP (r : RecP) (bn bb : Int) : RecP × Bool := if lateB r bn bb = true then (r, false) else ({ r with pn := bn, pb := bb }, true)
def voteP (r : RecP) (z bn bb u s k c n : Int) (t : ByteArray) (q : Int) (d : List Int) : RecP × Bool :=
  if lateB r bn bb = true then (r, false) else if (r.vn = bn ∧ r.vb = bb) ∧ r.st = z then (r, true) else if (r.vn = bn ∧ r.vb = bb) ∧ r.st = 2 ∧ z = 1 then (r, false) else (⟨z, bn, bb, bn, bb, u, s, k, c, n, t, q, d⟩, true)
def commitP (r : RecP) (u s k c n : Int) (t : ByteArray) (q : Int) (d : List Int) : RecP := if r.st = 3 then r else ⟨3, r.pn, r.pb, r.vn, r.vb, u, s, k, c, n, t, q, d⟩
def doesP (r : RecP) (x : S35) : RecP × Bool :=
  if x.f0 = 0 then promiseP r x.f1.f0 x.f1.f1
  else if x.f0 = 1 then voteP r 1 x.f1.f0 x.f1.f1 x.f2.f0 x.f2.f1 x.f2.f2 x.f2.f3 x.f2.f4 x.f2.f5 x.f3.f0 x.f3.f1
  else if x.f0 = 2 then voteP r 2 x.f1.f0 x.f1.f1 x.f2.f0 x.f2.f1 x.f2.f2 x.f2.f3 x.f2.f4 x.f2.f5 x.f3.f0 x.f3.f1
  else (commitP r x.f2.f0 x.f2.f1 x.f2.f2 x.f2.f3 x.f2.f4 x.f2.f5 x.f3.f0 x.f3.f1, true)
theorem clone_eq (l : List Int) (h : l.length ≤ 17592186044416) : slices_Clone_int_int.f l = some l := if_pos h
theorem own_eq (r : RecP) (h : r.d.length ≤ 17592186044416) : instance_own.f r.st r.pn r.pb r.vn r.vb r.u r.s r.k r.c r.n r.t r.q r.d = some (flat1 r) := by
  unfold instance_own.f; rw [clone_eq _ h]; rfl
theorem good_eq (n b : Int) : instance_good.f n b = some (goodB n b) := by
  unfold instance_good.f goodB
  rw [may_eq]
  by_cases h : (!(n == 0) || (!(b == 0))) = true
  · rw [if_pos h, h]; rfl
  · rw [if_neg h, Bool.eq_false_iff.2 h]; rfl
theorem late_eq (r : RecP) (bn bb : Int) (k : Nat) : instance_late.f (k + 3) r.st r.pn r.pb r.vn r.vb r.u r.s r.k r.c r.n r.t r.q r.d bn bb = some (lateB r bn bb) := by
  unfold instance_late.f lateB
  rw [good_eq]
  simp only [Option.bind_some]
  cases goodB bn bb with
  | false => rfl
  | true =>
    rw [if_pos rfl]
    by_cases h : r.st = 3
    · rw [if_pos h, decide_eq_true h]; rfl
    · rw [if_neg h, decide_eq_false h, cmp_eq]; rfl
theorem promise_eq (r : RecP) (bn bb : Int) (k : Nat) (h : r.d.length ≤ 17592186044416) : instance_Promise.f (k + 3) r.st r.pn r.pb r.vn r.vb r.u r.s r.k r.c r.n r.t r.q r.d bn bb = some (flat (promiseP r bn bb)) := by
  unfold instance_Promise.f promiseP
  rw [own_eq r h]
  simp only [Option.bind_some, flat1]
  rw [late_eq]
  simp only [Option.bind_some]
  cases lateB r bn bb <;> rfl
theorem j0_eq (r : RecP) (z bn bb u s p c n : Int) (t : ByteArray) (q : Int) (d : List Int) (x : Bool) (k : Nat) (h2 : d.length ≤ 17592186044416) : instance_vote.j0 (k + 1) z x r.st r.pn r.pb r.vn r.vb r.u r.s r.k r.c r.n r.t r.q r.d bn bb u s p c n t q d = some (flat (if x = true then (r, true) else if (r.vn = bn ∧ r.vb = bb) ∧ r.st = 2 ∧ z = 1 then (r, false) else (⟨z, bn, bb, bn, bb, u, s, p, c, n, t, q, d⟩, true))) := by
  have hn := own_eq ⟨z, bn, bb, bn, bb, u, s, p, c, n, t, q, d⟩ h2
  simp only at hn
  rw [instance_vote.j0, hn]
  cases x with
  | true => rfl
  | false =>
    simp only [Bool.false_eq_true, if_false]
    by_cases hv : r.vn = bn ∧ r.vb = bb
    · rw [if_pos (show (r.vn == bn && (r.vb == bb)) = true by simp [hv.1, hv.2])]
      by_cases h2' : r.st = 2
      · by_cases h1 : z = 1
        · rw [if_pos h2', if_pos h1, if_pos (show (r.vn = bn ∧ r.vb = bb) ∧ r.st = 2 ∧ z = 1 from ⟨hv, h2', h1⟩)]; rfl
        · rw [if_pos h2', if_neg h1, if_neg (show ¬ ((r.vn = bn ∧ r.vb = bb) ∧ r.st = 2 ∧ z = 1) from fun e => h1 e.2.2)]; rfl
      · rw [if_neg h2', if_neg (show ¬ ((r.vn = bn ∧ r.vb = bb) ∧ r.st = 2 ∧ z = 1) from fun e => h2' e.2.1)]; rfl
    · rw [if_neg (show ¬ ((r.vn == bn && (r.vb == bb)) = true) from fun e => hv (by simpa using e)), if_neg (show ¬ ((r.vn = bn ∧ r.vb = bb) ∧ r.st = 2 ∧ z = 1) from fun e => hv e.1)]; rfl
theorem vote_eq (r : RecP) (z bn bb u s p c n : Int) (t : ByteArray) (q : Int) (d : List Int) (k : Nat) (h : r.d.length ≤ 17592186044416) (h2 : d.length ≤ 17592186044416) : instance_vote.f (k + 3) r.st r.pn r.pb r.vn r.vb r.u r.s r.k r.c r.n r.t r.q r.d z bn bb u s p c n t q d = some (flat (voteP r z bn bb u s p c n t q d)) := by
  unfold instance_vote.f voteP
  rw [own_eq r h]
  simp only [Option.bind_some, flat1]
  rw [late_eq]
  simp only [Option.bind_some]
  cases lateB r bn bb with
  | true => rfl
  | false =>
    simp only [Bool.false_eq_true, if_false]
    by_cases hv : r.vn = bn ∧ r.vb = bb
    · rw [if_pos (show (r.vn == bn && (r.vb == bb)) = true by simp [hv.1, hv.2]), j0_eq r z bn bb u s p c n t q d _ (k + 2) h2]
      by_cases hz : r.st = z
      · rw [if_pos (show (r.st == z) = true by simp [hz]), if_pos (show (r.vn = bn ∧ r.vb = bb) ∧ r.st = z from ⟨hv, hz⟩)]
      · rw [if_neg (show ¬ ((r.st == z) = true) by simp [hz]), if_neg (show ¬ ((r.vn = bn ∧ r.vb = bb) ∧ r.st = z) from fun e => hz e.2)]
    · rw [if_neg (show ¬ ((r.vn == bn && (r.vb == bb)) = true) from fun e => hv (by simpa using e)), j0_eq r z bn bb u s p c n t q d _ (k + 2) h2, if_neg (by simp), if_neg (show ¬ ((r.vn = bn ∧ r.vb = bb) ∧ r.st = z) from fun e => hv e.1)]
theorem commit_eq (r : RecP) (u s p c n : Int) (t : ByteArray) (q : Int) (d : List Int) (h : r.d.length ≤ 17592186044416) (h2 : d.length ≤ 17592186044416) : instance_Commit.f r.st r.pn r.pb r.vn r.vb r.u r.s r.k r.c r.n r.t r.q r.d u s p c n t q d = some (flat1 (commitP r u s p c n t q d)) := by
  unfold instance_Commit.f commitP
  have hn := own_eq ⟨3, r.pn, r.pb, r.vn, r.vb, u, s, p, c, n, t, q, d⟩ h2
  simp only at hn
  by_cases hc : r.st = 3
  · rw [if_pos hc, if_pos hc, own_eq r h]; rfl
  · rw [if_neg hc, if_neg hc, hn]; rfl
theorem does_eq (r : RecP) (x : S35) (k : Nat) (h : r.d.length ≤ 17592186044416) (h2 : x.f3.f1.length ≤ 17592186044416) : colloquylaw09_does.f (k + 3) r.st r.pn r.pb r.vn r.vb r.u r.s r.k r.c r.n r.t r.q r.d x.f0 x.f1.f0 x.f1.f1 x.f2.f0 x.f2.f1 x.f2.f2 x.f2.f3 x.f2.f4 x.f2.f5 x.f3.f0 x.f3.f1 = some (flat (doesP r x)) := by
  unfold colloquylaw09_does.f doesP
  by_cases h0 : x.f0 = 0
  · rw [if_pos h0, if_pos h0, promise_eq r _ _ k h]; rfl
  · rw [if_neg h0, if_neg h0]
    by_cases h1 : x.f0 = 1
    · rw [if_pos h1, if_pos h1]; unfold instance_PreAccept.f; rw [vote_eq r _ _ _ _ _ _ _ _ _ _ _ k h h2]; rfl
    · rw [if_neg h1, if_neg h1]
      by_cases h2' : x.f0 = 2
      · rw [if_pos h2', if_pos h2']; unfold instance_Accept.f; rw [vote_eq r _ _ _ _ _ _ _ _ _ _ _ k h h2]; rfl
      · rw [if_neg h2', if_neg h2', commit_eq r _ _ _ _ _ _ _ _ h h2]; rfl
/-- two attributes are the same -/
def withinB (a : Int) (l : List Int) (b : Int) (m : List Int) : Bool := (List.range (max l.length m.length)).all (fun i => decide (l.getD i 0 ≤ m.getD i 0)) && decide (a ≤ b)
def sameA (a : Int) (l : List Int) (b : Int) (m : List Int) : Bool := withinB a l b m && withinB b m a l
theorem sameA_eq (a : Int) (l : List Int) (b : Int) (m : List Int) : attr_Same.f a l b m = some (sameA a l b m) := by
  unfold attr_Same.f attr_Within.f sameA
  simp only [Option.bind_some]
  rw [show (((List.range (max l.length m.length)).all (fun i => decide (l.getD i 0 ≤ m.getD i 0)) && decide (a ≤ b))) = withinB a l b m from rfl, show (((List.range (max m.length l.length)).all (fun i => decide (m.getD i 0 ≤ l.getD i 0)) && decide (b ≤ a))) = withinB b m a l from rfl]
  cases withinB a l b m <;> rfl
theorem sameA_refl (a : Int) (l : List Int) : sameA a l a l = true := by
  unfold sameA withinB; simp
def sameP (x y : RecP) : Bool := decide (x.st = y.st) && ((x.pn == y.pn && (x.pb == y.pb)) && ((x.vn == y.vn && (x.vb == y.vb)) && ((x.u == y.u && (x.s == y.s && (x.k == y.k && (x.c == y.c && (x.n == y.n && (x.t.toList == y.t.toList)))))) && sameA x.q x.d y.q y.d)))
theorem same_eq (x y : RecP) : instance_Same.f x.st x.pn x.pb x.vn x.vb x.u x.s x.k x.c x.n x.t x.q x.d y.st y.pn y.pb y.vn y.vb y.u y.s y.k y.c y.n y.t y.q y.d = some (sameP x y) := by
  unfold instance_Same.f sameP
  rw [sameA_eq]
  by_cases h : x.st = y.st
  · rw [if_pos h, decide_eq_true h]
    cases (x.pn == y.pn && (x.pb == y.pb)) <;> cases (x.vn == y.vn && (x.vb == y.vb)) <;> cases (x.u == y.u && (x.s == y.s && (x.k == y.k && (x.c == y.c && (x.n == y.n && (x.t.toList == y.t.toList)))))) <;> rfl
  · rw [if_neg h, decide_eq_false h]; rfl
theorem sameP_refl (x : RecP) : sameP x x = true := by
  unfold sameP; simp [sameA_refl]
end Go.Proofs.Ytkijkdifmoifaaa.P
