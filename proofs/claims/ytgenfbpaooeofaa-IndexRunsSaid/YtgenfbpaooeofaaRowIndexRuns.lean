/- The row of the law IndexRuns: at every input it answers true and leaves its arguments as they were; no condition. -/
import Derived.Test.YtgenfbpaooeofaaRows
import Derived.Test.YtgenfbpaooeofaaPx0
import Derived.Test.YtgenfbpaooeofaaRead
import Derived.Test.YtgenfbpaooeofaaLawIndexRuns
import Derived.WalkKit
import Derived.ProofKit
import Derived.OpenShut
import Derived.ShutString
import Derived.ChangeOld
import Derived.Below
import Derived.SizedLaws
namespace Go.Proofs.Ytgenfbpaooeofaa.indexRuns
open Go.ChangeShapes Go.WideShapes Go.ChangeAt Go.RowKit
open Go.ChangeMaps (open_string shut_string)
open Go.Proofs.YtgenfbpaooeofaaW.PrintWords Go.Proofs.YtgenfbpaooeofaaW.PrintLast Go.Proofs.YtgenfbpaooeofaaW.Read Go.Proofs.Ytgenfbpaooeofaa.P
set_option linter.unusedVariables false
theorem own : ownKnob Try.prog.godebug = none := by kernel_rfl
theorem laidOut : laidOutB Try.prog = true := by kernel_rfl
def good3 (n : Int) : Prop := (Lit.int .i64 n).wf = true
theorem tells3 : Tells Try.prog 3 (Kd.int .i64) good3 := Tells.int Try.underlying3
def good26 (x : S26) : Prop := good3 x.f0 ∧ good3 x.f1
theorem tells26 : Tells Try.prog 26 k26 good26 := Tells.iso (fun x : S26 => (x.f0, x.f1)) (fun p => ⟨p.1, p.2⟩) (fun _ => rfl) (Tells.struct Try.underlying26 (by kernel_rfl) (TellsF.cons (by kernel_rfl) (by kernel_rfl) tells3 (TellsF.one (by kernel_rfl) (by kernel_rfl) tells3)))
def good9 (s : ByteArray) : Prop := s.size ≤ maxLen
theorem tells9 : Tells Try.prog 9 Kd.string good9 := Tells.string Try.underlying9
def good24 (x : S24) : Prop := good3 x.f0 ∧ good3 x.f1 ∧ good3 x.f2 ∧ good3 x.f3 ∧ good3 x.f4 ∧ good9 x.f5
theorem tells24 : Tells Try.prog 24 k24 good24 := Tells.iso (fun x : S24 => (x.f0, x.f1, x.f2, x.f3, x.f4, x.f5)) (fun p => ⟨p.1, p.2.1, p.2.2.1, p.2.2.2.1, p.2.2.2.2.1, p.2.2.2.2.2⟩) (fun _ => rfl) (Tells.struct Try.underlying24 (by kernel_rfl) (TellsF.cons (by kernel_rfl) (by kernel_rfl) tells3 (TellsF.cons (by kernel_rfl) (by kernel_rfl) tells3 (TellsF.cons (by kernel_rfl) (by kernel_rfl) tells3 (TellsF.cons (by kernel_rfl) (by kernel_rfl) tells3 (TellsF.cons (by kernel_rfl) (by kernel_rfl) tells3 (TellsF.one (by kernel_rfl) (by kernel_rfl) tells9)))))))
def good29 (x : S29) : Prop := good26 x.f0 ∧ good24 x.f1 ∧ good3 x.f2
theorem tells29 : Tells Try.prog 29 k29 good29 := Tells.iso (fun x : S29 => (x.f0, x.f1, x.f2)) (fun p => ⟨p.1, p.2.1, p.2.2⟩) (fun _ => rfl) (Tells.struct Try.underlying29 (by kernel_rfl) (TellsF.cons (by kernel_rfl) (by kernel_rfl) tells26 (TellsF.cons (by kernel_rfl) (by kernel_rfl) tells24 (TellsF.one (by kernel_rfl) (by kernel_rfl) tells3))))
def good22 (xs : (List S29)) : Prop := ∀ x, x ∈ xs → good29 x
theorem tells22 : Tells Try.prog 22 (Kd.slice 29 k29) good22 := Tells.slice Try.underlying22 (by kernel_rfl) tells29
set_option maxRecDepth 100000 in
theorem lifted (os : Os) (started : os.Started) (H : Type) (enc : TypeId × Value → H) :
    ReturnsInHanded {} Try.checked os 4 .any (Rows.indexRunsSpec.pre6 enc Try.prog Try.f4 Rows.indexRunsRow.domain false) (Rows.indexRunsSpec.post enc Try.prog Try.f4 false true false false) := by
  refine returnsInHanded_of_change_sized (C := Try.checked) own started (by kernel_rfl) Try.func4
    (ChangeSpec.witness6 (enc := enc) (C := Try.checked) false ⟨#[], #[.slice none 0 0, .agg #[.int .i64 0, .int .i64 0, .int .i64 0, .int .i64 0, .int .i64 0, .string ByteArray.empty], .agg #[.int .i64 0, .int .i64 0], .int .i64 0], []⟩ 8 (by kernel_rfl) (by kernel_rfl) (by kernel_rfl) (by kernel_rfl)) ?_
  intro W base args ds gs before hval0 hW hcnd hsz0 _
  have hval : ∀ (j : Nat) t v, Try.f4.params[j]? = some t → args[j]? = some v → Value.okWide Try.prog W .any base t v := hval0
  have hW' := hW
  obtain ⟨p, q, hA0, hV, rfl, hfz, hnd⟩ := hW
  have hA : DataW.TrodAll enc Try.prog W 0 (fun _ => true) true Try.f4.params.toList args.toList ds p := hA0
  rw [Try.params4] at hA hval
  obtain ⟨v0, vs0, d0, ds0, p0, q0, hargs, rfl, rfl, h0, r0⟩ := trodAll_cons hA
  obtain ⟨v1, vs1, d1, ds1, p1, q1, rfl, rfl, rfl, h1, r1⟩ := trodAll_cons r0
  obtain ⟨v2, vs2, d2, ds2, p2, q2, rfl, rfl, rfl, h2, r2⟩ := trodAll_cons r1
  obtain ⟨v3, vs3, d3, ds3, p3, q3, rfl, rfl, rfl, h3, r3⟩ := trodAll_cons r2
  obtain ⟨rfl, rfl, rfl⟩ := trodAll_nil r3
  obtain rfl : args = #[v0, v1, v2, v3] := by cases args; simp_all
  obtain ⟨rfl, rfl⟩ := trodVars_none hV
  have k0 := h0
  have lt0 := places_lt k0
  obtain ⟨A0, c0, x0, rfl, hc0, hr0, hg0⟩ := Tells.row tells22 Try.underlying22 (hval 0 22 v0 rfl rfl) h0
  have hl0 : x0.length ≤ 9223372036854775807 := hr0.2.1
  have k1 := h1
  have lt1 := places_lt k1
  obtain ⟨x1, cs1, rfl, hK1, hg1⟩ := Tells.agg tells24 Try.underlying24 (hval 1 24 v1 rfl rfl) h1
  have hcs1 := k24_open hK1
  obtain rfl := Array.ext' (ys := (#[.int .i64 x1.f0, .int .i64 x1.f1, .int .i64 x1.f2, .int .i64 x1.f3, .int .i64 x1.f4, .string x1.f5] : Array Value)) hcs1
  have hb1_0 : -9223372036854775808 ≤ x1.f0 ∧ x1.f0 ≤ 9223372036854775807 := wf_i64_bd (show (Lit.int .i64 _).wf = true from hg1.1)
  have hb1_1 : -9223372036854775808 ≤ x1.f1 ∧ x1.f1 ≤ 9223372036854775807 := wf_i64_bd (show (Lit.int .i64 _).wf = true from hg1.2.1)
  have hb1_2 : -9223372036854775808 ≤ x1.f2 ∧ x1.f2 ≤ 9223372036854775807 := wf_i64_bd (show (Lit.int .i64 _).wf = true from hg1.2.2.1)
  have hb1_3 : -9223372036854775808 ≤ x1.f3 ∧ x1.f3 ≤ 9223372036854775807 := wf_i64_bd (show (Lit.int .i64 _).wf = true from hg1.2.2.2.1)
  have hb1_4 : -9223372036854775808 ≤ x1.f4 ∧ x1.f4 ≤ 9223372036854775807 := wf_i64_bd (show (Lit.int .i64 _).wf = true from hg1.2.2.2.2.1)
  have k2 := h2
  have lt2 := places_lt k2
  obtain ⟨x2, cs2, rfl, hK2, hg2⟩ := Tells.agg tells26 Try.underlying26 (hval 2 26 v2 rfl rfl) h2
  have hcs2 := k26_open hK2
  obtain rfl := Array.ext' (ys := (#[.int .i64 x2.f0, .int .i64 x2.f1] : Array Value)) hcs2
  have hb2_0 : -9223372036854775808 ≤ x2.f0 ∧ x2.f0 ≤ 9223372036854775807 := wf_i64_bd (show (Lit.int .i64 _).wf = true from hg2.1)
  have hb2_1 : -9223372036854775808 ≤ x2.f1 ∧ x2.f1 ≤ 9223372036854775807 := wf_i64_bd (show (Lit.int .i64 _).wf = true from hg2.2)
  have k3 := h3
  have lt3 := places_lt k3
  obtain ⟨x3, rfl, rfl, rfl, hg3⟩ := open_int Try.underlying3 (hval 3 3 v3 rfl rfl) h3
  have hb3 : -9223372036854775808 ≤ x3 ∧ x3 ≤ 9223372036854775807 := wf_i64_bd hg3
  refine (IndexRuns.law x0 x1 x2 x3 W A0 c0 hr0 hc0).mono fun e W' ⟨he, bel⟩ => ?_
  subst he
  exact ⟨_, rfl, _, _, _, [], _, [], hW', trodAll_mk1 (shut_bool Try.underlying4 _), (trodAll_cons_mk (Below.trod laidOut (by kernel_rfl) (of_decide_eq_true (by kernel_rfl)) k0 bel lt0) (trodAll_cons_mk (Below.trod laidOut (by kernel_rfl) (of_decide_eq_true (by kernel_rfl)) k1 bel lt1) (trodAll_cons_mk (Below.trod laidOut (by kernel_rfl) (of_decide_eq_true (by kernel_rfl)) k2 bel lt2) (trodAll_cons_mk (Below.trod laidOut (by kernel_rfl) (of_decide_eq_true (by kernel_rfl)) k3 bel lt3) trodAll_mk0)))), rfl, bel.frame _, fun h => by cases h⟩
theorem over : Rows.indexRunsRow.holds Try.pinned (OpenSpec.ofChange Rows.indexRunsSpec) :=
  OpenClaim.holds_of_wide 4 Try.f4 rfl rfl rfl rfl rfl rfl rfl ⟨rfl, rfl, rfl, rfl, rfl⟩ rfl rfl rfl rfl rfl (by kernel_rfl) Try.func4 (by kernel_rfl)
    (of_decide_eq_true (by kernel_rfl)) (by unfold Func.isWrapper; first | (rw [if_pos (by decide +kernel)]; kernel_rfl) | (rw [if_neg (by decide +kernel)]; exact ⟨rfl, rfl⟩))
    (fun os started H enc _ => lifted os started H enc)
theorem proved : Rows.IndexRunsSaid := over
end Go.Proofs.Ytgenfbpaooeofaa.indexRuns
namespace Go.Proofs.Ytgenfbpaooeofaa
/-- The row, under a short name, for the claim. -/
theorem indexRuns_holds : Rows.IndexRunsSaid := indexRuns.proved
#print axioms indexRuns_holds
end Go.Proofs.Ytgenfbpaooeofaa
