/- The row of the law ScoreSorts: at every input it answers true and leaves its arguments as they were; no condition. -/
import Derived.Test.YtlobedghenflfaaRows
import Derived.Test.YtlobedghenflfaaPx0
import Derived.Test.YtlobedghenflfaaPx3
import Derived.Test.YtlobedghenflfaaRead
import Derived.Test.YtlobedghenflfaaPureScoreSorts
import Derived.WalkKit
import Derived.ProofKit
import Derived.OpenShut
import Derived.ShutString
import Derived.ChangeOld
import Derived.Below
import Derived.SizedLaws
namespace Go.Proofs.Ytlobedghenflfaa.scoreSorts
open Go.ChangeShapes Go.WideShapes Go.ChangeAt Go.RowKit
open Go.ChangeMaps (open_string shut_string)
open Go.Proofs.YtlobedghenflfaaW.PrintWords Go.Proofs.YtlobedghenflfaaW.PrintLast Go.Proofs.YtlobedghenflfaaW.Read Go.Proofs.Ytlobedghenflfaa.P
set_option linter.unusedVariables false
theorem own : ownKnob Try.prog.godebug = none := by kernel_rfl
theorem laidOut : laidOutB Try.prog = true := by kernel_rfl
def good22 (n : Int) : Prop := (Lit.int .u64 n).wf = true
theorem tells22 : Tells Try.prog 22 (Kd.int .u64) good22 := Tells.int Try.underlying22
def good23 (xs : (List Int)) : Prop := ∀ x, x ∈ xs → good22 x
theorem tells23 : Tells Try.prog 23 (Kd.slice 22 (Kd.int .u64)) good23 := Tells.slice Try.underlying23 (by kernel_rfl) tells22
set_option maxRecDepth 100000 in
theorem lifted (os : Os) (started : os.Started) (H : Type) (enc : TypeId × Value → H) :
    ReturnsInHanded {} Try.checked os 4 .any (Rows.scoreSortsSpec.pre6 enc Try.prog Try.f4 Rows.scoreSortsRow.domain false) (Rows.scoreSortsSpec.post enc Try.prog Try.f4 false true false false) := by
  refine returnsInHanded_of_change_sized (C := Try.checked) own started (by kernel_rfl) Try.func4
    (ChangeSpec.witness6 (enc := enc) (C := Try.checked) false ⟨#[], #[.slice none 0 0, .int .u64 0], []⟩ 8 (by kernel_rfl) (by kernel_rfl) (by kernel_rfl) (by kernel_rfl)) ?_
  intro W base args ds gs before hval0 hW hcnd hsz0 _
  have hval : ∀ (j : Nat) t v, Try.f4.params[j]? = some t → args[j]? = some v → Value.okWide Try.prog W .any base t v := hval0
  have hW' := hW
  obtain ⟨p, q, hA0, hV, rfl, hfz, hnd⟩ := hW
  have hA : DataW.TrodAll enc Try.prog W 0 (fun _ => true) true Try.f4.params.toList args.toList ds p := hA0
  rw [Try.params4] at hA hval
  obtain ⟨v0, vs0, d0, ds0, p0, q0, hargs, rfl, rfl, h0, r0⟩ := trodAll_cons hA
  obtain ⟨v1, vs1, d1, ds1, p1, q1, rfl, rfl, rfl, h1, r1⟩ := trodAll_cons r0
  obtain ⟨rfl, rfl, rfl⟩ := trodAll_nil r1
  obtain rfl : args = #[v0, v1] := by cases args; simp_all
  obtain ⟨rfl, rfl⟩ := trodVars_none hV
  have k0 := h0
  have lt0 := places_lt k0
  obtain ⟨A0, c0, x0, rfl, hc0, hr0, hg0⟩ := Tells.row tells23 Try.underlying23 (hval 0 23 v0 rfl rfl) h0
  have hl0 : x0.length ≤ 9223372036854775807 := hr0.2.1
  have k1 := h1
  have lt1 := places_lt k1
  obtain ⟨x1, rfl, rfl, rfl, hg1⟩ := open_int Try.underlying22 (hval 1 22 v1 rfl rfl) h1
  have hb1 : 0 ≤ x1 ∧ x1 ≤ 18446744073709551615 := wf_u64_bd hg1
  obtain ⟨k, hp⟩ := Go.Proofs.Ytlobedghenflfaa.Pure.ScoreSorts.pure x0 x1 hg0
  refine (colloquylaw13_ScoreSorts.calls k _ _ _ _ true W hr0 hc0 rfl hp).mono fun e W' ⟨he, bel0⟩ => ?_
  have bel : Below W.heap.size W W' := bel0
  subst he
  exact ⟨_, rfl, _, _, _, [], _, [], hW', trodAll_mk1 (shut_bool Try.underlying4 _), (trodAll_cons_mk (Below.trod laidOut (by kernel_rfl) (of_decide_eq_true (by kernel_rfl)) k0 bel lt0) (trodAll_cons_mk (Below.trod laidOut (by kernel_rfl) (of_decide_eq_true (by kernel_rfl)) k1 bel lt1) trodAll_mk0)), rfl, bel.frame _, fun h => by cases h⟩
theorem over : Rows.scoreSortsRow.holds Try.pinned (OpenSpec.ofChange Rows.scoreSortsSpec) :=
  OpenClaim.holds_of_wide 4 Try.f4 rfl rfl rfl rfl rfl rfl rfl ⟨rfl, rfl, rfl, rfl, rfl⟩ rfl rfl rfl rfl rfl (by kernel_rfl) Try.func4 (by kernel_rfl)
    (of_decide_eq_true (by kernel_rfl)) (by unfold Func.isWrapper; first | (rw [if_pos (by decide +kernel)]; kernel_rfl) | (rw [if_neg (by decide +kernel)]; exact ⟨rfl, rfl⟩))
    (fun os started H enc _ => lifted os started H enc)
theorem proved : Rows.ScoreSortsSaid := over
end Go.Proofs.Ytlobedghenflfaa.scoreSorts
namespace Go.Proofs.Ytlobedghenflfaa
/-- The row, under a short name, for the claim. -/
theorem scoreSorts_holds : Rows.ScoreSortsSaid := scoreSorts.proved
#print axioms scoreSorts_holds
end Go.Proofs.Ytlobedghenflfaa
