/- The row of the law AttrMerges: at every input it answers true and leaves its arguments as they were; no condition. -/
import Derived.Test.YtolfjfepehmfgaaRows
import Derived.Test.YtolfjfepehmfgaaPx0
import Derived.Test.YtolfjfepehmfgaaPx3
import Derived.Test.YtolfjfepehmfgaaRead
import Derived.Test.YtolfjfepehmfgaaLawAttrMerges
import Derived.WalkKit
import Derived.ProofKit
import Derived.OpenShut
import Derived.ShutString
import Derived.ChangeOld
import Derived.Below
import Derived.SizedLaws
namespace Go.Proofs.Ytolfjfepehmfgaa.attrMerges
open Go.ChangeShapes Go.WideShapes Go.ChangeAt Go.RowKit
open Go.ChangeMaps (open_string shut_string)
open Go.Proofs.YtolfjfepehmfgaaW.PrintWords Go.Proofs.YtolfjfepehmfgaaW.PrintLast Go.Proofs.YtolfjfepehmfgaaW.Read Go.Proofs.Ytolfjfepehmfgaa.P
set_option linter.unusedVariables false
theorem own : ownKnob Try.prog.godebug = none := by kernel_rfl
theorem laidOut : laidOutB Try.prog = true := by kernel_rfl
def good3 (n : Int) : Prop := (Lit.int .i64 n).wf = true
theorem tells3 : Tells Try.prog 3 (Kd.int .i64) good3 := Tells.int Try.underlying3
def good25 (xs : (List Int)) : Prop := ∀ x, x ∈ xs → good3 x
theorem tells25 : Tells Try.prog 25 (Kd.slice 3 (Kd.int .i64)) good25 := Tells.slice Try.underlying25 (by kernel_rfl) tells3
def good27 (x : S27) : Prop := good3 x.f0 ∧ good25 x.f1
theorem tells27 : Tells Try.prog 27 k27 good27 := Tells.iso (fun x : S27 => (x.f0, x.f1)) (fun p => ⟨p.1, p.2⟩) (fun _ => rfl) (Tells.struct Try.underlying27 (by kernel_rfl) (TellsF.cons (by kernel_rfl) (by kernel_rfl) tells3 (TellsF.one (by kernel_rfl) (by kernel_rfl) tells25)))
def good22 (xs : (List S27)) : Prop := ∀ x, x ∈ xs → good27 x
theorem tells22 : Tells Try.prog 22 (Kd.slice 27 k27) good22 := Tells.slice Try.underlying22 (by kernel_rfl) tells27
set_option maxRecDepth 100000 in
theorem lifted (os : Os) (started : os.Started) (H : Type) (enc : TypeId × Value → H) :
    ReturnsInHanded {} Try.checked os 3 .any (Rows.attrMergesSpec.pre6 enc Try.prog Try.f3 Rows.attrMergesRow.domain false) (Rows.attrMergesSpec.post enc Try.prog Try.f3 false true false false) := by
  refine returnsInHanded_of_change_sized (C := Try.checked) own started (by kernel_rfl) Try.func3
    (ChangeSpec.witness6 (enc := enc) (C := Try.checked) false ⟨#[], #[.slice none 0 0], []⟩ 8 (by kernel_rfl) (by kernel_rfl) (by kernel_rfl) (by kernel_rfl)) ?_
  intro W base args ds gs before hval0 hW hcnd hsz0 _
  have hval : ∀ (j : Nat) t v, Try.f3.params[j]? = some t → args[j]? = some v → Value.okWide Try.prog W .any base t v := hval0
  have hW' := hW
  obtain ⟨p, q, hA0, hV, rfl, hfz, hnd⟩ := hW
  have hA : DataW.TrodAll enc Try.prog W 0 (fun _ => true) true Try.f3.params.toList args.toList ds p := hA0
  rw [Try.params3] at hA hval
  obtain ⟨v0, vs0, d0, ds0, p0, q0, hargs, rfl, rfl, h0, r0⟩ := trodAll_cons hA
  obtain ⟨rfl, rfl, rfl⟩ := trodAll_nil r0
  obtain rfl : args = #[v0] := by cases args; simp_all
  obtain ⟨rfl, rfl⟩ := trodVars_none hV
  have k0 := h0
  have lt0 := places_lt k0
  obtain ⟨A0, c0, x0, rfl, hc0, hr0, hg0⟩ := Tells.row tells22 Try.underlying22 (hval 0 22 v0 rfl rfl) h0
  have hl0 : x0.length ≤ 9223372036854775807 := hr0.2.1
  obtain ⟨k, hp⟩ := AttrMerges.pure x0 hl0
  refine (colloquylaw06_AttrMerges.calls k _ _ _ true W hr0 hc0 hp).mono fun e W' ⟨he, bel0⟩ => ?_
  have bel : Below W.heap.size W W' := bel0
  subst he
  exact ⟨_, rfl, _, _, _, [], _, [], hW', trodAll_mk1 (shut_bool Try.underlying4 _), (trodAll_cons_mk (Below.trod laidOut (by kernel_rfl) (of_decide_eq_true (by kernel_rfl)) k0 bel lt0) trodAll_mk0), rfl, bel.frame _, fun h => by cases h⟩
theorem over : Rows.attrMergesRow.holds Try.pinned (OpenSpec.ofChange Rows.attrMergesSpec) :=
  OpenClaim.holds_of_wide 3 Try.f3 rfl rfl rfl rfl rfl rfl rfl ⟨rfl, rfl, rfl, rfl, rfl⟩ rfl rfl rfl rfl rfl (by kernel_rfl) Try.func3 (by kernel_rfl)
    (of_decide_eq_true (by kernel_rfl)) (by unfold Func.isWrapper; first | (rw [if_pos (by decide +kernel)]; kernel_rfl) | (rw [if_neg (by decide +kernel)]; exact ⟨rfl, rfl⟩))
    (fun os started H enc _ => lifted os started H enc)
theorem proved : Rows.AttrMergesSaid := over
end Go.Proofs.Ytolfjfepehmfgaa.attrMerges
namespace Go.Proofs.Ytolfjfepehmfgaa
/-- The row, under a short name, for the claim. -/
theorem attrMerges_holds : Rows.AttrMergesSaid := attrMerges.proved
#print axioms attrMerges_holds
end Go.Proofs.Ytolfjfepehmfgaa
