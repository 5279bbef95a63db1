/- The plain side of the law InstanceRises. -/
import Derived.Test.YtkijkdifmoifaaaPx0
import Derived.Test.YtkijkdifmoifaaaPx5
import Derived.Test.YtkijkdifmoifaaaPx7
import Derived.Test.YtkijkdifmoifaaaCmp
import Derived.Test.YtkijkdifmoifaaaInst
namespace Go.Proofs.Ytkijkdifmoifaaa.P
open Go.RowKit Go.Proofs.YtkijkdifmoifaaaW.PrintWords Go.Proofs.YtkijkdifmoifaaaW.PrintLast Go.Proofs.YtkijkdifmoifaaaW.PrintMore
set_option linter.unusedVariables false
theorem rdStep_at (l : List S35) (j : Nat) (h : j < l.length) : rd_T35 l (j : Int) = l[j] := by
  unfold rd_T35; simp [List.getD_eq_getElem?_getD, List.getElem?_eq_getElem h]
theorem InstanceRises.pure (l : List S35) : ∃ k, colloquylaw09_InstanceRises.f k l = some true := by
  refine Ev.rounds ?_
  unfold colloquylaw09_InstanceRises.f colloquylaw09_awake.f
  simp only [Option.bind_some, if_true]
  by_cases g1 : (l.length : Int) > 60
  · rw [decide_eq_true g1]
    exact Ev.step (f := fun _ => some true) (fun k => by simp only [colloquylaw09_InstanceRises.j0]; rfl) (Ev.now _)
  rw [decide_eq_false g1]
  have key : ∀ (d i : Nat) (r : RecP), i + d = l.length → goodR r → Ev (fun k => colloquylaw09_InstanceRises.l0 k l (i : Int) r.st r.pn r.pb r.vn r.vb r.u r.s r.k r.c r.n r.t r.q r.d) true := by
    intro d
    induction d with
    | zero =>
      intro i r hi g
      refine Ev.step (f := fun _ => some true) (fun k => ?_) (Ev.now _)
      simp only [colloquylaw09_InstanceRises.l0]; rw [if_neg (by omega)]
    | succ d ih =>
      intro i r hi g
      have hi' : i < l.length := by omega
      have ew : wrap64 ((i : Int) + 1) = ((i + 1 : Nat) : Int) := by unfold wrap64; omega
      by_cases hx : l[i].f3.f1.length ≤ 50
      · obtain ⟨h1, h2, h3, h4, h5, h6⟩ := rises r l[i] g hx
        have hd := fun k => does_eq r l[i] k (by have := g.2.2.2; omega) (by omega)
        generalize doesP r l[i] = y at *
        obtain ⟨y, yb⟩ := y
        simp only at h1 h2 h3 h4 h5 h6
        obtain ⟨K, hK⟩ := ih (i + 1) y (by omega) h6
        refine ⟨K + 4, fun k hk => ?_⟩
        obtain ⟨m, rfl⟩ : ∃ m, k = m + 3 + 1 := ⟨k - 4, by omega⟩
        simp only [colloquylaw09_InstanceRises.l0]
        rw [if_pos (by omega), if_pos (by omega), rdStep_at l i hi', show colloquylaw06_Few.f l[i].f3.f0 l[i].f3.f1 = some true from congrArg some (decide_eq_true (by omega))]
        simp only [Option.bind_some]
        rw [if_pos trivial, hd m]
        simp only [Option.bind_some, flat]
        rw [cmp_eq]
        simp only [Option.bind_some]
        rw [if_neg (by omega), cmp_eq]
        simp only [Option.bind_some]
        rw [if_neg (by omega), cmp_eq]
        simp only [Option.bind_some]
        rw [if_neg (by omega)]
        have last : colloquylaw09_InstanceRises.j2 (m + 3) l (i : Int) false r.st r.pn r.pb r.vn r.vb r.u r.s r.k r.c r.n r.t r.q r.d y.st y.pn y.pb y.vn y.vb y.u y.s y.k y.c y.n y.t y.q y.d = some true := by
          simp only [colloquylaw09_InstanceRises.j2]
          rw [if_neg (by simp), ew]
          have hl := hK (m + 2) (by omega)
          simp only at hl
          by_cases h3' : r.st = 3
          · rw [if_pos h3', h5 h3', same_eq, sameP_refl]
            simp only [Option.bind_some]
            rw [if_pos trivial]
            rw [h5 h3'] at hl; exact hl
          · rw [if_neg h3']; exact hl
        by_cases hs : y.st < r.st
        · rw [if_pos hs, decide_eq_false (by have := h4 hs; omega)]; exact last
        · rw [if_neg hs]; exact last
      · refine Ev.step (f := fun _ => some true) (fun k => ?_) (Ev.now _)
        simp only [colloquylaw09_InstanceRises.l0]
        rw [if_pos (by omega), if_pos (by omega), rdStep_at l i hi', show colloquylaw06_Few.f l[i].f3.f0 l[i].f3.f1 = some false from congrArg some (decide_eq_false (by omega))]
        rfl
  refine Ev.step (f := fun k => colloquylaw09_InstanceRises.l0 k l 0 0 0 0 0 0 0 0 0 0 0 (⟨#[]⟩ : ByteArray) 0 ([] : List Int)) (fun k => by simp only [colloquylaw09_InstanceRises.j0]; rfl) ?_
  exact key l.length 0 ⟨0, 0, 0, 0, 0, 0, 0, 0, 0, 0, ⟨#[]⟩, 0, []⟩ (by omega) ⟨by decide, by decide, by decide, by decide⟩
end Go.Proofs.Ytkijkdifmoifaaa.P
