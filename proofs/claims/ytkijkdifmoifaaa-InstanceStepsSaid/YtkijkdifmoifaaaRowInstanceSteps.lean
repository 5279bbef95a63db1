/- The row of the law InstanceSteps: at every input it answers true and leaves its arguments as they were; no condition. -/
import Derived.Test.YtkijkdifmoifaaaRows
import Derived.Test.YtkijkdifmoifaaaPx0
import Derived.Test.YtkijkdifmoifaaaPx15
import Derived.Test.YtkijkdifmoifaaaRead
import Derived.Test.YtkijkdifmoifaaaLawInstanceSteps
import Derived.WalkKit
import Derived.ProofKit
import Derived.OpenShut
import Derived.ShutString
import Derived.ChangeOld
import Derived.Below
import Derived.SizedLaws
namespace Go.Proofs.Ytkijkdifmoifaaa.instanceSteps
open Go.ChangeShapes Go.WideShapes Go.ChangeAt Go.RowKit
open Go.ChangeMaps (open_string shut_string)
open Go.Proofs.YtkijkdifmoifaaaW.PrintWords Go.Proofs.YtkijkdifmoifaaaW.PrintLast Go.Proofs.YtkijkdifmoifaaaW.Read Go.Proofs.Ytkijkdifmoifaaa.P
set_option linter.unusedVariables false
theorem own : ownKnob Try.prog.godebug = none := by kernel_rfl
theorem laidOut : laidOutB Try.prog = true := by kernel_rfl
def good3 (n : Int) : Prop := (Lit.int .i64 n).wf = true
theorem tells3 : Tells Try.prog 3 (Kd.int .i64) good3 := Tells.int Try.underlying3
def good25 (x : S25) : Prop := good3 x.f0 ∧ good3 x.f1
theorem tells25 : Tells Try.prog 25 k25 good25 := Tells.iso (fun x : S25 => (x.f0, x.f1)) (fun p => ⟨p.1, p.2⟩) (fun _ => rfl) (Tells.struct Try.underlying25 (by kernel_rfl) (TellsF.cons (by kernel_rfl) (by kernel_rfl) tells3 (TellsF.one (by kernel_rfl) (by kernel_rfl) tells3)))
def good9 (s : ByteArray) : Prop := s.size ≤ maxLen
theorem tells9 : Tells Try.prog 9 Kd.string good9 := Tells.string Try.underlying9
def good27 (x : S27) : Prop := good3 x.f0 ∧ good3 x.f1 ∧ good3 x.f2 ∧ good3 x.f3 ∧ good3 x.f4 ∧ good9 x.f5
theorem tells27 : Tells Try.prog 27 k27 good27 := Tells.iso (fun x : S27 => (x.f0, x.f1, x.f2, x.f3, x.f4, x.f5)) (fun p => ⟨p.1, p.2.1, p.2.2.1, p.2.2.2.1, p.2.2.2.2.1, p.2.2.2.2.2⟩) (fun _ => rfl) (Tells.struct Try.underlying27 (by kernel_rfl) (TellsF.cons (by kernel_rfl) (by kernel_rfl) tells3 (TellsF.cons (by kernel_rfl) (by kernel_rfl) tells3 (TellsF.cons (by kernel_rfl) (by kernel_rfl) tells3 (TellsF.cons (by kernel_rfl) (by kernel_rfl) tells3 (TellsF.cons (by kernel_rfl) (by kernel_rfl) tells3 (TellsF.one (by kernel_rfl) (by kernel_rfl) tells9)))))))
def good28 (xs : (List Int)) : Prop := ∀ x, x ∈ xs → good3 x
theorem tells28 : Tells Try.prog 28 (Kd.slice 3 (Kd.int .i64)) good28 := Tells.slice Try.underlying28 (by kernel_rfl) tells3
def good30 (x : S30) : Prop := good3 x.f0 ∧ good28 x.f1
theorem tells30 : Tells Try.prog 30 k30 good30 := Tells.iso (fun x : S30 => (x.f0, x.f1)) (fun p => ⟨p.1, p.2⟩) (fun _ => rfl) (Tells.struct Try.underlying30 (by kernel_rfl) (TellsF.cons (by kernel_rfl) (by kernel_rfl) tells3 (TellsF.one (by kernel_rfl) (by kernel_rfl) tells28)))
def good32 (x : S32) : Prop := good3 x.f0 ∧ good25 x.f1 ∧ good25 x.f2 ∧ good27 x.f3 ∧ good30 x.f4
theorem tells32 : Tells Try.prog 32 k32 good32 := Tells.iso (fun x : S32 => (x.f0, x.f1, x.f2, x.f3, x.f4)) (fun p => ⟨p.1, p.2.1, p.2.2.1, p.2.2.2.1, p.2.2.2.2⟩) (fun _ => rfl) (Tells.struct Try.underlying32 (by kernel_rfl) (TellsF.cons (by kernel_rfl) (by kernel_rfl) tells3 (TellsF.cons (by kernel_rfl) (by kernel_rfl) tells25 (TellsF.cons (by kernel_rfl) (by kernel_rfl) tells25 (TellsF.cons (by kernel_rfl) (by kernel_rfl) tells27 (TellsF.one (by kernel_rfl) (by kernel_rfl) tells30))))))
def good35 (x : S35) : Prop := good3 x.f0 ∧ good25 x.f1 ∧ good27 x.f2 ∧ good30 x.f3
theorem tells35 : Tells Try.prog 35 k35 good35 := Tells.iso (fun x : S35 => (x.f0, x.f1, x.f2, x.f3)) (fun p => ⟨p.1, p.2.1, p.2.2.1, p.2.2.2⟩) (fun _ => rfl) (Tells.struct Try.underlying35 (by kernel_rfl) (TellsF.cons (by kernel_rfl) (by kernel_rfl) tells3 (TellsF.cons (by kernel_rfl) (by kernel_rfl) tells25 (TellsF.cons (by kernel_rfl) (by kernel_rfl) tells27 (TellsF.one (by kernel_rfl) (by kernel_rfl) tells30)))))
set_option maxRecDepth 100000 in
theorem lifted (os : Os) (started : os.Started) (H : Type) (enc : TypeId × Value → H) :
    ReturnsInHanded {} Try.checked os 6 .any (Rows.instanceStepsSpec.pre6 enc Try.prog Try.f6 Rows.instanceStepsRow.domain false) (Rows.instanceStepsSpec.post enc Try.prog Try.f6 false true false false) := by
  refine returnsInHanded_of_change_sized (C := Try.checked) own started (by kernel_rfl) Try.func6
    (ChangeSpec.witness6 (enc := enc) (C := Try.checked) false ⟨#[], #[.agg #[.int .i64 0, .int .i64 0, .int .i64 0, .int .i64 0, .int .i64 0, .int .i64 0, .int .i64 0, .int .i64 0, .int .i64 0, .int .i64 0, .string ByteArray.empty, .int .i64 0, .slice none 0 0], .agg #[.int .i64 0, .int .i64 0, .int .i64 0, .int .i64 0, .int .i64 0, .int .i64 0, .int .i64 0, .int .i64 0, .string ByteArray.empty, .int .i64 0, .slice none 0 0], .agg #[.int .i64 0, .int .i64 0, .int .i64 0, .int .i64 0, .int .i64 0, .int .i64 0, .int .i64 0, .int .i64 0, .int .i64 0, .int .i64 0, .string ByteArray.empty, .int .i64 0, .slice none 0 0], .int .i64 0], []⟩ 8 (by kernel_rfl) (by kernel_rfl) (by kernel_rfl) (by kernel_rfl)) ?_
  intro W base args ds gs before hval0 hW hcnd hsz0 _
  have hval : ∀ (j : Nat) t v, Try.f6.params[j]? = some t → args[j]? = some v → Value.okWide Try.prog W .any base t v := hval0
  have hW' := hW
  obtain ⟨p, q, hA0, hV, rfl, hfz, hnd⟩ := hW
  have hA : DataW.TrodAll enc Try.prog W 0 (fun _ => true) true Try.f6.params.toList args.toList ds p := hA0
  rw [Try.params6] at hA hval
  obtain ⟨v0, vs0, d0, ds0, p0, q0, hargs, rfl, rfl, h0, r0⟩ := trodAll_cons hA
  obtain ⟨v1, vs1, d1, ds1, p1, q1, rfl, rfl, rfl, h1, r1⟩ := trodAll_cons r0
  obtain ⟨v2, vs2, d2, ds2, p2, q2, rfl, rfl, rfl, h2, r2⟩ := trodAll_cons r1
  obtain ⟨v3, vs3, d3, ds3, p3, q3, rfl, rfl, rfl, h3, r3⟩ := trodAll_cons r2
  obtain ⟨rfl, rfl, rfl⟩ := trodAll_nil r3
  obtain rfl : args = #[v0, v1, v2, v3] := by cases args; simp_all
  obtain ⟨rfl, rfl⟩ := trodVars_none hV
  have k0 := h0
  have lt0 := places_lt k0
  obtain ⟨x0, cs0, rfl, hK0, hg0⟩ := Tells.agg tells32 Try.underlying32 (hval 0 32 v0 rfl rfl) h0
  obtain ⟨A0_12, c0_12, hcs0, hc0_12, hr0_12⟩ := k32_open hK0
  obtain rfl := Array.ext' (ys := (#[.int .i64 x0.f0, .int .i64 x0.f1.f0, .int .i64 x0.f1.f1, .int .i64 x0.f2.f0, .int .i64 x0.f2.f1, .int .i64 x0.f3.f0, .int .i64 x0.f3.f1, .int .i64 x0.f3.f2, .int .i64 x0.f3.f3, .int .i64 x0.f3.f4, .string x0.f3.f5, .int .i64 x0.f4.f0, .slice A0_12 x0.f4.f1.length c0_12] : Array Value)) hcs0
  have hb0_0 : -9223372036854775808 ≤ x0.f0 ∧ x0.f0 ≤ 9223372036854775807 := wf_i64_bd (show (Lit.int .i64 _).wf = true from hg0.1)
  have hb0_1 : -9223372036854775808 ≤ x0.f1.f0 ∧ x0.f1.f0 ≤ 9223372036854775807 := wf_i64_bd (show (Lit.int .i64 _).wf = true from hg0.2.1.1)
  have hb0_2 : -9223372036854775808 ≤ x0.f1.f1 ∧ x0.f1.f1 ≤ 9223372036854775807 := wf_i64_bd (show (Lit.int .i64 _).wf = true from hg0.2.1.2)
  have hb0_3 : -9223372036854775808 ≤ x0.f2.f0 ∧ x0.f2.f0 ≤ 9223372036854775807 := wf_i64_bd (show (Lit.int .i64 _).wf = true from hg0.2.2.1.1)
  have hb0_4 : -9223372036854775808 ≤ x0.f2.f1 ∧ x0.f2.f1 ≤ 9223372036854775807 := wf_i64_bd (show (Lit.int .i64 _).wf = true from hg0.2.2.1.2)
  have hb0_5 : -9223372036854775808 ≤ x0.f3.f0 ∧ x0.f3.f0 ≤ 9223372036854775807 := wf_i64_bd (show (Lit.int .i64 _).wf = true from hg0.2.2.2.1.1)
  have hb0_6 : -9223372036854775808 ≤ x0.f3.f1 ∧ x0.f3.f1 ≤ 9223372036854775807 := wf_i64_bd (show (Lit.int .i64 _).wf = true from hg0.2.2.2.1.2.1)
  have hb0_7 : -9223372036854775808 ≤ x0.f3.f2 ∧ x0.f3.f2 ≤ 9223372036854775807 := wf_i64_bd (show (Lit.int .i64 _).wf = true from hg0.2.2.2.1.2.2.1)
  have hb0_8 : -9223372036854775808 ≤ x0.f3.f3 ∧ x0.f3.f3 ≤ 9223372036854775807 := wf_i64_bd (show (Lit.int .i64 _).wf = true from hg0.2.2.2.1.2.2.2.1)
  have hb0_9 : -9223372036854775808 ≤ x0.f3.f4 ∧ x0.f3.f4 ≤ 9223372036854775807 := wf_i64_bd (show (Lit.int .i64 _).wf = true from hg0.2.2.2.1.2.2.2.2.1)
  have hb0_11 : -9223372036854775808 ≤ x0.f4.f0 ∧ x0.f4.f0 ≤ 9223372036854775807 := wf_i64_bd (show (Lit.int .i64 _).wf = true from hg0.2.2.2.2.1)
  have hl0_12 : x0.f4.f1.length ≤ 9223372036854775807 := hr0_12.2.1
  have k1 := h1
  have lt1 := places_lt k1
  obtain ⟨x1, cs1, rfl, hK1, hg1⟩ := Tells.agg tells35 Try.underlying35 (hval 1 35 v1 rfl rfl) h1
  obtain ⟨A1_10, c1_10, hcs1, hc1_10, hr1_10⟩ := k35_open hK1
  obtain rfl := Array.ext' (ys := (#[.int .i64 x1.f0, .int .i64 x1.f1.f0, .int .i64 x1.f1.f1, .int .i64 x1.f2.f0, .int .i64 x1.f2.f1, .int .i64 x1.f2.f2, .int .i64 x1.f2.f3, .int .i64 x1.f2.f4, .string x1.f2.f5, .int .i64 x1.f3.f0, .slice A1_10 x1.f3.f1.length c1_10] : Array Value)) hcs1
  have hb1_0 : -9223372036854775808 ≤ x1.f0 ∧ x1.f0 ≤ 9223372036854775807 := wf_i64_bd (show (Lit.int .i64 _).wf = true from hg1.1)
  have hb1_1 : -9223372036854775808 ≤ x1.f1.f0 ∧ x1.f1.f0 ≤ 9223372036854775807 := wf_i64_bd (show (Lit.int .i64 _).wf = true from hg1.2.1.1)
  have hb1_2 : -9223372036854775808 ≤ x1.f1.f1 ∧ x1.f1.f1 ≤ 9223372036854775807 := wf_i64_bd (show (Lit.int .i64 _).wf = true from hg1.2.1.2)
  have hb1_3 : -9223372036854775808 ≤ x1.f2.f0 ∧ x1.f2.f0 ≤ 9223372036854775807 := wf_i64_bd (show (Lit.int .i64 _).wf = true from hg1.2.2.1.1)
  have hb1_4 : -9223372036854775808 ≤ x1.f2.f1 ∧ x1.f2.f1 ≤ 9223372036854775807 := wf_i64_bd (show (Lit.int .i64 _).wf = true from hg1.2.2.1.2.1)
  have hb1_5 : -9223372036854775808 ≤ x1.f2.f2 ∧ x1.f2.f2 ≤ 9223372036854775807 := wf_i64_bd (show (Lit.int .i64 _).wf = true from hg1.2.2.1.2.2.1)
  have hb1_6 : -9223372036854775808 ≤ x1.f2.f3 ∧ x1.f2.f3 ≤ 9223372036854775807 := wf_i64_bd (show (Lit.int .i64 _).wf = true from hg1.2.2.1.2.2.2.1)
  have hb1_7 : -9223372036854775808 ≤ x1.f2.f4 ∧ x1.f2.f4 ≤ 9223372036854775807 := wf_i64_bd (show (Lit.int .i64 _).wf = true from hg1.2.2.1.2.2.2.2.1)
  have hb1_9 : -9223372036854775808 ≤ x1.f3.f0 ∧ x1.f3.f0 ≤ 9223372036854775807 := wf_i64_bd (show (Lit.int .i64 _).wf = true from hg1.2.2.2.1)
  have hl1_10 : x1.f3.f1.length ≤ 9223372036854775807 := hr1_10.2.1
  have k2 := h2
  have lt2 := places_lt k2
  obtain ⟨x2, cs2, rfl, hK2, hg2⟩ := Tells.agg tells32 Try.underlying32 (hval 2 32 v2 rfl rfl) h2
  obtain ⟨A2_12, c2_12, hcs2, hc2_12, hr2_12⟩ := k32_open hK2
  obtain rfl := Array.ext' (ys := (#[.int .i64 x2.f0, .int .i64 x2.f1.f0, .int .i64 x2.f1.f1, .int .i64 x2.f2.f0, .int .i64 x2.f2.f1, .int .i64 x2.f3.f0, .int .i64 x2.f3.f1, .int .i64 x2.f3.f2, .int .i64 x2.f3.f3, .int .i64 x2.f3.f4, .string x2.f3.f5, .int .i64 x2.f4.f0, .slice A2_12 x2.f4.f1.length c2_12] : Array Value)) hcs2
  have hb2_0 : -9223372036854775808 ≤ x2.f0 ∧ x2.f0 ≤ 9223372036854775807 := wf_i64_bd (show (Lit.int .i64 _).wf = true from hg2.1)
  have hb2_1 : -9223372036854775808 ≤ x2.f1.f0 ∧ x2.f1.f0 ≤ 9223372036854775807 := wf_i64_bd (show (Lit.int .i64 _).wf = true from hg2.2.1.1)
  have hb2_2 : -9223372036854775808 ≤ x2.f1.f1 ∧ x2.f1.f1 ≤ 9223372036854775807 := wf_i64_bd (show (Lit.int .i64 _).wf = true from hg2.2.1.2)
  have hb2_3 : -9223372036854775808 ≤ x2.f2.f0 ∧ x2.f2.f0 ≤ 9223372036854775807 := wf_i64_bd (show (Lit.int .i64 _).wf = true from hg2.2.2.1.1)
  have hb2_4 : -9223372036854775808 ≤ x2.f2.f1 ∧ x2.f2.f1 ≤ 9223372036854775807 := wf_i64_bd (show (Lit.int .i64 _).wf = true from hg2.2.2.1.2)
  have hb2_5 : -9223372036854775808 ≤ x2.f3.f0 ∧ x2.f3.f0 ≤ 9223372036854775807 := wf_i64_bd (show (Lit.int .i64 _).wf = true from hg2.2.2.2.1.1)
  have hb2_6 : -9223372036854775808 ≤ x2.f3.f1 ∧ x2.f3.f1 ≤ 9223372036854775807 := wf_i64_bd (show (Lit.int .i64 _).wf = true from hg2.2.2.2.1.2.1)
  have hb2_7 : -9223372036854775808 ≤ x2.f3.f2 ∧ x2.f3.f2 ≤ 9223372036854775807 := wf_i64_bd (show (Lit.int .i64 _).wf = true from hg2.2.2.2.1.2.2.1)
  have hb2_8 : -9223372036854775808 ≤ x2.f3.f3 ∧ x2.f3.f3 ≤ 9223372036854775807 := wf_i64_bd (show (Lit.int .i64 _).wf = true from hg2.2.2.2.1.2.2.2.1)
  have hb2_9 : -9223372036854775808 ≤ x2.f3.f4 ∧ x2.f3.f4 ≤ 9223372036854775807 := wf_i64_bd (show (Lit.int .i64 _).wf = true from hg2.2.2.2.1.2.2.2.2.1)
  have hb2_11 : -9223372036854775808 ≤ x2.f4.f0 ∧ x2.f4.f0 ≤ 9223372036854775807 := wf_i64_bd (show (Lit.int .i64 _).wf = true from hg2.2.2.2.2.1)
  have hl2_12 : x2.f4.f1.length ≤ 9223372036854775807 := hr2_12.2.1
  have k3 := h3
  have lt3 := places_lt k3
  obtain ⟨x3, rfl, rfl, rfl, hg3⟩ := open_int Try.underlying3 (hval 3 3 v3 rfl rfl) h3
  have hb3 : -9223372036854775808 ≤ x3 ∧ x3 ≤ 9223372036854775807 := wf_i64_bd hg3
  obtain ⟨k, hp⟩ := InstanceSteps.pure ⟨x0.f0, x0.f1.f0, x0.f1.f1, x0.f2.f0, x0.f2.f1, x0.f3.f0, x0.f3.f1, x0.f3.f2, x0.f3.f3, x0.f3.f4, x0.f3.f5, x0.f4.f0, x0.f4.f1⟩ x1 ⟨x2.f0, x2.f1.f0, x2.f1.f1, x2.f2.f0, x2.f2.f1, x2.f3.f0, x2.f3.f1, x2.f3.f2, x2.f3.f3, x2.f3.f4, x2.f3.f5, x2.f4.f0, x2.f4.f1⟩ x3
  refine (colloquylaw09_InstanceSteps.calls k _ _ _ _ _ _ _ _ _ _ _ _ _ _ _ _ _ _ _ _ _ _ _ _ _ _ _ _ _ _ _ _ _ _ _ _ _ _ _ _ _ _ _ _ true W hr0_12 hc0_12 hr1_10 hc1_10 hr2_12 hc2_12 rfl hp).mono fun e W' ⟨he, bel0⟩ => ?_
  have bel : Below W.heap.size W W' := bel0
  subst he
  exact ⟨_, rfl, _, _, _, [], _, [], hW', trodAll_mk1 (shut_bool Try.underlying4 _), (trodAll_cons_mk (Below.trod laidOut (by kernel_rfl) (of_decide_eq_true (by kernel_rfl)) k0 bel lt0) (trodAll_cons_mk (Below.trod laidOut (by kernel_rfl) (of_decide_eq_true (by kernel_rfl)) k1 bel lt1) (trodAll_cons_mk (Below.trod laidOut (by kernel_rfl) (of_decide_eq_true (by kernel_rfl)) k2 bel lt2) (trodAll_cons_mk (Below.trod laidOut (by kernel_rfl) (of_decide_eq_true (by kernel_rfl)) k3 bel lt3) trodAll_mk0)))), rfl, bel.frame _, fun h => by cases h⟩
theorem over : Rows.instanceStepsRow.holds Try.pinned (OpenSpec.ofChange Rows.instanceStepsSpec) :=
  OpenClaim.holds_of_wide 6 Try.f6 rfl rfl rfl rfl rfl rfl rfl ⟨rfl, rfl, rfl, rfl, rfl⟩ rfl rfl rfl rfl rfl (by kernel_rfl) Try.func6 (by kernel_rfl)
    (of_decide_eq_true (by kernel_rfl)) (by unfold Func.isWrapper; first | (rw [if_pos (by decide +kernel)]; kernel_rfl) | (rw [if_neg (by decide +kernel)]; exact ⟨rfl, rfl⟩))
    (fun os started H enc _ => lifted os started H enc)
theorem proved : Rows.InstanceStepsSaid := over
end Go.Proofs.Ytkijkdifmoifaaa.instanceSteps
namespace Go.Proofs.Ytkijkdifmoifaaa
/-- The row, under a short name, for the claim. -/
theorem instanceSteps_holds : Rows.InstanceStepsSaid := instanceSteps.proved
#print axioms instanceSteps_holds
end Go.Proofs.Ytkijkdifmoifaaa
