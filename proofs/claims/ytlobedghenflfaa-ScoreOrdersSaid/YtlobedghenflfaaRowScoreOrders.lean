/- The row of the law ScoreOrders: at every input it answers true and leaves its arguments as they were; no condition. -/
import Derived.Test.YtlobedghenflfaaRows
import Derived.Test.YtlobedghenflfaaPx0
import Derived.Test.YtlobedghenflfaaPx2
import Derived.Test.YtlobedghenflfaaRead
import Derived.Test.YtlobedghenflfaaPureScoreOrders
import Derived.WalkKit
import Derived.ProofKit
import Derived.OpenShut
import Derived.ShutString
import Derived.ChangeOld
import Derived.Below
import Derived.SizedLaws
namespace Go.Proofs.Ytlobedghenflfaa.scoreOrders
open Go.ChangeShapes Go.WideShapes Go.ChangeAt Go.RowKit
open Go.ChangeMaps (open_string shut_string)
open Go.Proofs.YtlobedghenflfaaW.PrintWords Go.Proofs.YtlobedghenflfaaW.PrintLast Go.Proofs.YtlobedghenflfaaW.Read Go.Proofs.Ytlobedghenflfaa.P
set_option linter.unusedVariables false
theorem own : ownKnob Try.prog.godebug = none := by kernel_rfl
theorem laidOut : laidOutB Try.prog = true := by kernel_rfl
def good22 (n : Int) : Prop := (Lit.int .u64 n).wf = true
theorem tells22 : Tells Try.prog 22 (Kd.int .u64) good22 := Tells.int Try.underlying22
def good23 (xs : (List Int)) : Prop := ∀ x, x ∈ xs → good22 x
theorem tells23 : Tells Try.prog 23 (Kd.slice 22 (Kd.int .u64)) good23 := Tells.slice Try.underlying23 (by kernel_rfl) tells22
set_option maxRecDepth 100000 in
theorem lifted (os : Os) (started : os.Started) (H : Type) (enc : TypeId × Value → H) :
    ReturnsInHanded {} Try.checked os 3 .any (Rows.scoreOrdersSpec.pre6 enc Try.prog Try.f3 Rows.scoreOrdersRow.domain false) (Rows.scoreOrdersSpec.post enc Try.prog Try.f3 false true false false) := by
  refine returnsInHanded_of_change_sized (C := Try.checked) own started (by kernel_rfl) Try.func3
    (ChangeSpec.witness6 (enc := enc) (C := Try.checked) false ⟨#[], #[.int .u64 0, .int .u64 0, .slice none 0 0], []⟩ 8 (by kernel_rfl) (by kernel_rfl) (by kernel_rfl) (by kernel_rfl)) ?_
  intro W base args ds gs before hval0 hW hcnd hsz0 _
  have hval : ∀ (j : Nat) t v, Try.f3.params[j]? = some t → args[j]? = some v → Value.okWide Try.prog W .any base t v := hval0
  have hW' := hW
  obtain ⟨p, q, hA0, hV, rfl, hfz, hnd⟩ := hW
  have hA : DataW.TrodAll enc Try.prog W 0 (fun _ => true) true Try.f3.params.toList args.toList ds p := hA0
  rw [Try.params3] at hA hval
  obtain ⟨v0, vs0, d0, ds0, p0, q0, hargs, rfl, rfl, h0, r0⟩ := trodAll_cons hA
  obtain ⟨v1, vs1, d1, ds1, p1, q1, rfl, rfl, rfl, h1, r1⟩ := trodAll_cons r0
  obtain ⟨v2, vs2, d2, ds2, p2, q2, rfl, rfl, rfl, h2, r2⟩ := trodAll_cons r1
  obtain ⟨rfl, rfl, rfl⟩ := trodAll_nil r2
  obtain rfl : args = #[v0, v1, v2] := by cases args; simp_all
  obtain ⟨rfl, rfl⟩ := trodVars_none hV
  have k0 := h0
  have lt0 := places_lt k0
  obtain ⟨x0, rfl, rfl, rfl, hg0⟩ := open_int Try.underlying22 (hval 0 22 v0 rfl rfl) h0
  have hb0 : 0 ≤ x0 ∧ x0 ≤ 18446744073709551615 := wf_u64_bd hg0
  have k1 := h1
  have lt1 := places_lt k1
  obtain ⟨x1, rfl, rfl, rfl, hg1⟩ := open_int Try.underlying22 (hval 1 22 v1 rfl rfl) h1
  have hb1 : 0 ≤ x1 ∧ x1 ≤ 18446744073709551615 := wf_u64_bd hg1
  have k2 := h2
  have lt2 := places_lt k2
  obtain ⟨A2, c2, x2, rfl, hc2, hr2, hg2⟩ := Tells.row tells23 Try.underlying23 (hval 2 23 v2 rfl rfl) h2
  have hl2 : x2.length ≤ 9223372036854775807 := hr2.2.1
  obtain ⟨k, hp⟩ := Go.Proofs.Ytlobedghenflfaa.Pure.ScoreOrders.pure x0 x1 x2 hg0 hg1 hg2
  refine (colloquylaw13_ScoreOrders.calls k _ _ _ _ _ true W hr2 hc2 rfl hp).mono fun e W' ⟨he, bel0⟩ => ?_
  have bel : Below W.heap.size W W' := bel0
  subst he
  exact ⟨_, rfl, _, _, _, [], _, [], hW', trodAll_mk1 (shut_bool Try.underlying4 _), (trodAll_cons_mk (Below.trod laidOut (by kernel_rfl) (of_decide_eq_true (by kernel_rfl)) k0 bel lt0) (trodAll_cons_mk (Below.trod laidOut (by kernel_rfl) (of_decide_eq_true (by kernel_rfl)) k1 bel lt1) (trodAll_cons_mk (Below.trod laidOut (by kernel_rfl) (of_decide_eq_true (by kernel_rfl)) k2 bel lt2) trodAll_mk0))), rfl, bel.frame _, fun h => by cases h⟩
theorem over : Rows.scoreOrdersRow.holds Try.pinned (OpenSpec.ofChange Rows.scoreOrdersSpec) :=
  OpenClaim.holds_of_wide 3 Try.f3 rfl rfl rfl rfl rfl rfl rfl ⟨rfl, rfl, rfl, rfl, rfl⟩ rfl rfl rfl rfl rfl (by kernel_rfl) Try.func3 (by kernel_rfl)
    (of_decide_eq_true (by kernel_rfl)) (by unfold Func.isWrapper; first | (rw [if_pos (by decide +kernel)]; kernel_rfl) | (rw [if_neg (by decide +kernel)]; exact ⟨rfl, rfl⟩))
    (fun os started H enc _ => lifted os started H enc)
theorem proved : Rows.ScoreOrdersSaid := over
end Go.Proofs.Ytlobedghenflfaa.scoreOrders
namespace Go.Proofs.Ytlobedghenflfaa
/-- The row, under a short name, for the claim. -/
theorem scoreOrders_holds : Rows.ScoreOrdersSaid := scoreOrders.proved
#print axioms scoreOrders_holds
end Go.Proofs.Ytlobedghenflfaa
