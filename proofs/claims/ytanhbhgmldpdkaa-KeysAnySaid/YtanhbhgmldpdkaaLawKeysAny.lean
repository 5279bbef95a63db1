/- The plain side of the law KeysAny. -/
import Derived.Test.YtanhbhgmldpdkaaPx0
import Derived.Test.YtanhbhgmldpdkaaPx8
import Derived.Test.YtanhbhgmldpdkaaPx10
import Derived.Test.YtanhbhgmldpdkaaKeys
namespace Go.Proofs.Ytanhbhgmldpdkaa.P
open Go.RowKit Go.Proofs.YtanhbhgmldpdkaaW.PrintWords Go.Proofs.YtanhbhgmldpdkaaW.PrintLast Go.Proofs.YtanhbhgmldpdkaaW.PrintMore
set_option linter.unusedVariables false
theorem rdCmdA_at (l : List S23) (j : Nat) (h : j < l.length) : rd_T23 l (j : Int) = l[j] := by
  unfold rd_T23; simp [List.getD_eq_getElem?_getD, List.getElem?_eq_getElem h]
theorem KeysAny.pure (x : S23) (l : List S23) (y : S23) : ∃ k, colloquylaw05_KeysAny.f k x.f0 x.f1 x.f2 x.f3 x.f4 x.f5 l y.f0 y.f1 y.f2 y.f3 y.f4 y.f5 = some true := by
  refine Ev.rounds ?_
  unfold colloquylaw05_KeysAny.f
  simp only [keys_awake, Option.bind_some, if_true]
  by_cases g1 : (l.length : Int) > 100
  · rw [decide_eq_true g1]
    exact Ev.step (f := fun _ => some true) (fun k => by simp only [colloquylaw05_KeysAny.j0]; rfl) (Ev.now _)
  rw [decide_eq_false g1]
  refine Ev.step (f := fun k => colloquylaw05_KeysAny.l0 k l false 0 x.f0 x.f1 x.f2 x.f3 x.f4 x.f5 y.f0 y.f1 y.f2 y.f3 y.f4 y.f5) (fun k => by simp only [colloquylaw05_KeysAny.j0]; rfl) ?_
  have any_eq : ∀ m, keys_Any.f x.f0 x.f1 x.f2 x.f3 x.f4 x.f5 m = some (m.any fun y => interB x y) := fun _ => rfl
  have key : ∀ (d i : Nat) (b : Bool), i + d = l.length → b = ((l.take i).any fun y => interB x y) → Ev (fun k => colloquylaw05_KeysAny.l0 k l b (i : Int) x.f0 x.f1 x.f2 x.f3 x.f4 x.f5 y.f0 y.f1 y.f2 y.f3 y.f4 y.f5) true := by
    intro d
    induction d with
    | zero =>
      intro i b hi hb
      rw [List.take_of_length_le (by omega)] at hb
      refine Ev.step (f := fun _ => some true) (fun k => ?_) (Ev.now _)
      simp only [colloquylaw05_KeysAny.l0]
      rw [if_neg (by omega), if_pos (by simp only [List.length_nil]; omega)]
      simp only [Option.bind_some, List.nil_append, List.length_cons, List.length_nil]
      rw [if_pos (by omega), any_eq, any_eq, inter_eq]
      simp only [Option.bind_some]
      rw [List.any_append, ← hb]
      cases b <;> simp
    | succ d ih =>
      intro i b hi hb
      have hi' : i < l.length := by omega
      have ew : wrap64 ((i : Int) + 1) = ((i + 1 : Nat) : Int) := by unfold wrap64; omega
      have ht : ((l.take (i + 1)).any fun y => interB x y) = (b || interB x l[i]) := by
        rw [List.take_succ_eq_append_getElem hi', List.any_append, ← hb]; simp
      cases b with
      | true =>
        refine Ev.step (f := fun k => colloquylaw05_KeysAny.l0 k l true ((i + 1 : Nat) : Int) x.f0 x.f1 x.f2 x.f3 x.f4 x.f5 y.f0 y.f1 y.f2 y.f3 y.f4 y.f5) (fun k => ?_) (ih (i + 1) true (by omega) (ht.trans rfl).symm)
        simp only [colloquylaw05_KeysAny.l0]
        rw [if_pos (by omega), if_pos trivial, ew]
      | false =>
        refine Ev.step (f := fun k => colloquylaw05_KeysAny.l0 k l (interB x l[i]) ((i + 1 : Nat) : Int) x.f0 x.f1 x.f2 x.f3 x.f4 x.f5 y.f0 y.f1 y.f2 y.f3 y.f4 y.f5) (fun k => ?_) (ih (i + 1) _ (by omega) (ht.trans (Bool.false_or _)).symm)
        simp only [colloquylaw05_KeysAny.l0]
        rw [if_pos (by omega), if_neg (by simp), if_pos (by omega), rdCmdA_at l i hi', inter_eq, ew]
        rfl
  exact key l.length 0 false (by omega) (by simp)
end Go.Proofs.Ytanhbhgmldpdkaa.P
