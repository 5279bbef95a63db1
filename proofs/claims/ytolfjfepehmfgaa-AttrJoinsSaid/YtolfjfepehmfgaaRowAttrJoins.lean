/- The row of the law AttrJoins: at every input it answers true and leaves its arguments as they were; no condition. -/
import Derived.Test.YtolfjfepehmfgaaRows
import Derived.Test.YtolfjfepehmfgaaPx0
import Derived.Test.YtolfjfepehmfgaaPx10
import Derived.Test.YtolfjfepehmfgaaRead
import Derived.Test.YtolfjfepehmfgaaLawAttrJoins
import Derived.WalkKit
import Derived.ProofKit
import Derived.OpenShut
import Derived.ShutString
import Derived.ChangeOld
import Derived.Below
import Derived.SizedLaws
namespace Go.Proofs.Ytolfjfepehmfgaa.attrJoins
open Go.ChangeShapes Go.WideShapes Go.ChangeAt Go.RowKit
open Go.ChangeMaps (open_string shut_string)
open Go.Proofs.YtolfjfepehmfgaaW.PrintWords Go.Proofs.YtolfjfepehmfgaaW.PrintLast Go.Proofs.YtolfjfepehmfgaaW.Read Go.Proofs.Ytolfjfepehmfgaa.P
set_option linter.unusedVariables false
theorem own : ownKnob Try.prog.godebug = none := by kernel_rfl
theorem laidOut : laidOutB Try.prog = true := by kernel_rfl
def good3 (n : Int) : Prop := (Lit.int .i64 n).wf = true
theorem tells3 : Tells Try.prog 3 (Kd.int .i64) good3 := Tells.int Try.underlying3
def good25 (xs : (List Int)) : Prop := ∀ x, x ∈ xs → good3 x
theorem tells25 : Tells Try.prog 25 (Kd.slice 3 (Kd.int .i64)) good25 := Tells.slice Try.underlying25 (by kernel_rfl) tells3
def good27 (x : S27) : Prop := good3 x.f0 ∧ good25 x.f1
theorem tells27 : Tells Try.prog 27 k27 good27 := Tells.iso (fun x : S27 => (x.f0, x.f1)) (fun p => ⟨p.1, p.2⟩) (fun _ => rfl) (Tells.struct Try.underlying27 (by kernel_rfl) (TellsF.cons (by kernel_rfl) (by kernel_rfl) tells3 (TellsF.one (by kernel_rfl) (by kernel_rfl) tells25)))
set_option maxRecDepth 100000 in
theorem lifted (os : Os) (started : os.Started) (H : Type) (enc : TypeId × Value → H) :
    ReturnsInHanded {} Try.checked os 7 .any (Rows.attrJoinsSpec.pre6 enc Try.prog Try.f7 Rows.attrJoinsRow.domain false) (Rows.attrJoinsSpec.post enc Try.prog Try.f7 false true false false) := by
  refine returnsInHanded_of_change_sized (C := Try.checked) own started (by kernel_rfl) Try.func7
    (ChangeSpec.witness6 (enc := enc) (C := Try.checked) false ⟨#[], #[.agg #[.int .i64 0, .slice none 0 0], .agg #[.int .i64 0, .slice none 0 0], .agg #[.int .i64 0, .slice none 0 0]], []⟩ 8 (by kernel_rfl) (by kernel_rfl) (by kernel_rfl) (by kernel_rfl)) ?_
  intro W base args ds gs before hval0 hW hcnd hsz0 _
  have hval : ∀ (j : Nat) t v, Try.f7.params[j]? = some t → args[j]? = some v → Value.okWide Try.prog W .any base t v := hval0
  have hW' := hW
  obtain ⟨p, q, hA0, hV, rfl, hfz, hnd⟩ := hW
  have hA : DataW.TrodAll enc Try.prog W 0 (fun _ => true) true Try.f7.params.toList args.toList ds p := hA0
  rw [Try.params7] at hA hval
  obtain ⟨v0, vs0, d0, ds0, p0, q0, hargs, rfl, rfl, h0, r0⟩ := trodAll_cons hA
  obtain ⟨v1, vs1, d1, ds1, p1, q1, rfl, rfl, rfl, h1, r1⟩ := trodAll_cons r0
  obtain ⟨v2, vs2, d2, ds2, p2, q2, rfl, rfl, rfl, h2, r2⟩ := trodAll_cons r1
  obtain ⟨rfl, rfl, rfl⟩ := trodAll_nil r2
  obtain rfl : args = #[v0, v1, v2] := by cases args; simp_all
  obtain ⟨rfl, rfl⟩ := trodVars_none hV
  have k0 := h0
  have lt0 := places_lt k0
  obtain ⟨x0, cs0, rfl, hK0, hg0⟩ := Tells.agg tells27 Try.underlying27 (hval 0 27 v0 rfl rfl) h0
  obtain ⟨A0_1, c0_1, hcs0, hc0_1, hr0_1⟩ := k27_open hK0
  obtain rfl := Array.ext' (ys := (#[.int .i64 x0.f0, .slice A0_1 x0.f1.length c0_1] : Array Value)) hcs0
  have hb0_0 : -9223372036854775808 ≤ x0.f0 ∧ x0.f0 ≤ 9223372036854775807 := wf_i64_bd (show (Lit.int .i64 _).wf = true from hg0.1)
  have hl0_1 : x0.f1.length ≤ 9223372036854775807 := hr0_1.2.1
  have k1 := h1
  have lt1 := places_lt k1
  obtain ⟨x1, cs1, rfl, hK1, hg1⟩ := Tells.agg tells27 Try.underlying27 (hval 1 27 v1 rfl rfl) h1
  obtain ⟨A1_1, c1_1, hcs1, hc1_1, hr1_1⟩ := k27_open hK1
  obtain rfl := Array.ext' (ys := (#[.int .i64 x1.f0, .slice A1_1 x1.f1.length c1_1] : Array Value)) hcs1
  have hb1_0 : -9223372036854775808 ≤ x1.f0 ∧ x1.f0 ≤ 9223372036854775807 := wf_i64_bd (show (Lit.int .i64 _).wf = true from hg1.1)
  have hl1_1 : x1.f1.length ≤ 9223372036854775807 := hr1_1.2.1
  have k2 := h2
  have lt2 := places_lt k2
  obtain ⟨x2, cs2, rfl, hK2, hg2⟩ := Tells.agg tells27 Try.underlying27 (hval 2 27 v2 rfl rfl) h2
  obtain ⟨A2_1, c2_1, hcs2, hc2_1, hr2_1⟩ := k27_open hK2
  obtain rfl := Array.ext' (ys := (#[.int .i64 x2.f0, .slice A2_1 x2.f1.length c2_1] : Array Value)) hcs2
  have hb2_0 : -9223372036854775808 ≤ x2.f0 ∧ x2.f0 ≤ 9223372036854775807 := wf_i64_bd (show (Lit.int .i64 _).wf = true from hg2.1)
  have hl2_1 : x2.f1.length ≤ 9223372036854775807 := hr2_1.2.1
  obtain ⟨k, hp⟩ := AttrJoins.pure x0.f0 x0.f1 x1.f0 x1.f1 x2.f0 x2.f1 hl0_1 hl1_1 hl2_1
  refine (colloquylaw06_AttrJoins.calls k _ (fun k_ => k_ < W.heap.size) _ _ _ _ (fun k_ => k_ < W.heap.size) _ _ _ _ (fun k_ => k_ < W.heap.size) _ _ _ true W (Kd.V_mk hc0_1 (Kd.C_F (Kd.heap_int .i64) hr0_1)) (Kd.V_mk hc1_1 (Kd.C_F (Kd.heap_int .i64) hr1_1)) (Kd.V_mk hc2_1 (Kd.C_F (Kd.heap_int .i64) hr2_1)) rfl hp).mono fun e W' ⟨he, bel0⟩ => ?_
  have bel : Below W.heap.size W W' := bel0
  subst he
  exact ⟨_, rfl, _, _, _, [], _, [], hW', trodAll_mk1 (shut_bool Try.underlying4 _), (trodAll_cons_mk (Below.trod laidOut (by kernel_rfl) (of_decide_eq_true (by kernel_rfl)) k0 bel lt0) (trodAll_cons_mk (Below.trod laidOut (by kernel_rfl) (of_decide_eq_true (by kernel_rfl)) k1 bel lt1) (trodAll_cons_mk (Below.trod laidOut (by kernel_rfl) (of_decide_eq_true (by kernel_rfl)) k2 bel lt2) trodAll_mk0))), rfl, bel.frame _, fun h => by cases h⟩
theorem over : Rows.attrJoinsRow.holds Try.pinned (OpenSpec.ofChange Rows.attrJoinsSpec) :=
  OpenClaim.holds_of_wide 7 Try.f7 rfl rfl rfl rfl rfl rfl rfl ⟨rfl, rfl, rfl, rfl, rfl⟩ rfl rfl rfl rfl rfl (by kernel_rfl) Try.func7 (by kernel_rfl)
    (of_decide_eq_true (by kernel_rfl)) (by unfold Func.isWrapper; first | (rw [if_pos (by decide +kernel)]; kernel_rfl) | (rw [if_neg (by decide +kernel)]; exact ⟨rfl, rfl⟩))
    (fun os started H enc _ => lifted os started H enc)
theorem proved : Rows.AttrJoinsSaid := over
end Go.Proofs.Ytolfjfepehmfgaa.attrJoins
namespace Go.Proofs.Ytolfjfepehmfgaa
/-- The row, under a short name, for the claim. -/
theorem attrJoins_holds : Rows.AttrJoinsSaid := attrJoins.proved
#print axioms attrJoins_holds
end Go.Proofs.Ytolfjfepehmfgaa
