/- The row of the law InstanceRises: at every input it answers true and leaves its arguments as they were; no condition. -/
import Derived.Test.YtkijkdifmoifaaaRows
import Derived.Test.YtkijkdifmoifaaaPx0
import Derived.Test.YtkijkdifmoifaaaPx7
import Derived.Test.YtkijkdifmoifaaaRead
import Derived.Test.YtkijkdifmoifaaaLawInstanceRises
import Derived.WalkKit
import Derived.ProofKit
import Derived.OpenShut
import Derived.ShutString
import Derived.ChangeOld
import Derived.Below
import Derived.SizedLaws
namespace Go.Proofs.Ytkijkdifmoifaaa.instanceRises
open Go.ChangeShapes Go.WideShapes Go.ChangeAt Go.RowKit
open Go.ChangeMaps (open_string shut_string)
open Go.Proofs.YtkijkdifmoifaaaW.PrintWords Go.Proofs.YtkijkdifmoifaaaW.PrintLast Go.Proofs.YtkijkdifmoifaaaW.Read Go.Proofs.Ytkijkdifmoifaaa.P
set_option linter.unusedVariables false
theorem own : ownKnob Try.prog.godebug = none := by kernel_rfl
theorem laidOut : laidOutB Try.prog = true := by kernel_rfl
def good3 (n : Int) : Prop := (Lit.int .i64 n).wf = true
theorem tells3 : Tells Try.prog 3 (Kd.int .i64) good3 := Tells.int Try.underlying3
def good25 (x : S25) : Prop := good3 x.f0 ∧ good3 x.f1
theorem tells25 : Tells Try.prog 25 k25 good25 := Tells.iso (fun x : S25 => (x.f0, x.f1)) (fun p => ⟨p.1, p.2⟩) (fun _ => rfl) (Tells.struct Try.underlying25 (by kernel_rfl) (TellsF.cons (by kernel_rfl) (by kernel_rfl) tells3 (TellsF.one (by kernel_rfl) (by kernel_rfl) tells3)))
def good9 (s : ByteArray) : Prop := s.size ≤ maxLen
theorem tells9 : Tells Try.prog 9 Kd.string good9 := Tells.string Try.underlying9
def good27 (x : S27) : Prop := good3 x.f0 ∧ good3 x.f1 ∧ good3 x.f2 ∧ good3 x.f3 ∧ good3 x.f4 ∧ good9 x.f5
theorem tells27 : Tells Try.prog 27 k27 good27 := Tells.iso (fun x : S27 => (x.f0, x.f1, x.f2, x.f3, x.f4, x.f5)) (fun p => ⟨p.1, p.2.1, p.2.2.1, p.2.2.2.1, p.2.2.2.2.1, p.2.2.2.2.2⟩) (fun _ => rfl) (Tells.struct Try.underlying27 (by kernel_rfl) (TellsF.cons (by kernel_rfl) (by kernel_rfl) tells3 (TellsF.cons (by kernel_rfl) (by kernel_rfl) tells3 (TellsF.cons (by kernel_rfl) (by kernel_rfl) tells3 (TellsF.cons (by kernel_rfl) (by kernel_rfl) tells3 (TellsF.cons (by kernel_rfl) (by kernel_rfl) tells3 (TellsF.one (by kernel_rfl) (by kernel_rfl) tells9)))))))
def good28 (xs : (List Int)) : Prop := ∀ x, x ∈ xs → good3 x
theorem tells28 : Tells Try.prog 28 (Kd.slice 3 (Kd.int .i64)) good28 := Tells.slice Try.underlying28 (by kernel_rfl) tells3
def good30 (x : S30) : Prop := good3 x.f0 ∧ good28 x.f1
theorem tells30 : Tells Try.prog 30 k30 good30 := Tells.iso (fun x : S30 => (x.f0, x.f1)) (fun p => ⟨p.1, p.2⟩) (fun _ => rfl) (Tells.struct Try.underlying30 (by kernel_rfl) (TellsF.cons (by kernel_rfl) (by kernel_rfl) tells3 (TellsF.one (by kernel_rfl) (by kernel_rfl) tells28)))
def good35 (x : S35) : Prop := good3 x.f0 ∧ good25 x.f1 ∧ good27 x.f2 ∧ good30 x.f3
theorem tells35 : Tells Try.prog 35 k35 good35 := Tells.iso (fun x : S35 => (x.f0, x.f1, x.f2, x.f3)) (fun p => ⟨p.1, p.2.1, p.2.2.1, p.2.2.2⟩) (fun _ => rfl) (Tells.struct Try.underlying35 (by kernel_rfl) (TellsF.cons (by kernel_rfl) (by kernel_rfl) tells3 (TellsF.cons (by kernel_rfl) (by kernel_rfl) tells25 (TellsF.cons (by kernel_rfl) (by kernel_rfl) tells27 (TellsF.one (by kernel_rfl) (by kernel_rfl) tells30)))))
def good22 (xs : (List S35)) : Prop := ∀ x, x ∈ xs → good35 x
theorem tells22 : Tells Try.prog 22 (Kd.slice 35 k35) good22 := Tells.slice Try.underlying22 (by kernel_rfl) tells35
set_option maxRecDepth 100000 in
theorem lifted (os : Os) (started : os.Started) (H : Type) (enc : TypeId × Value → H) :
    ReturnsInHanded {} Try.checked os 3 .any (Rows.instanceRisesSpec.pre6 enc Try.prog Try.f3 Rows.instanceRisesRow.domain false) (Rows.instanceRisesSpec.post enc Try.prog Try.f3 false true false false) := by
  refine returnsInHanded_of_change_sized (C := Try.checked) own started (by kernel_rfl) Try.func3
    (ChangeSpec.witness6 (enc := enc) (C := Try.checked) false ⟨#[], #[.slice none 0 0], []⟩ 8 (by kernel_rfl) (by kernel_rfl) (by kernel_rfl) (by kernel_rfl)) ?_
  intro W base args ds gs before hval0 hW hcnd hsz0 _
  have hval : ∀ (j : Nat) t v, Try.f3.params[j]? = some t → args[j]? = some v → Value.okWide Try.prog W .any base t v := hval0
  have hW' := hW
  obtain ⟨p, q, hA0, hV, rfl, hfz, hnd⟩ := hW
  have hA : DataW.TrodAll enc Try.prog W 0 (fun _ => true) true Try.f3.params.toList args.toList ds p := hA0
  rw [Try.params3] at hA hval
  obtain ⟨v0, vs0, d0, ds0, p0, q0, hargs, rfl, rfl, h0, r0⟩ := trodAll_cons hA
  obtain ⟨rfl, rfl, rfl⟩ := trodAll_nil r0
  obtain rfl : args = #[v0] := by cases args; simp_all
  obtain ⟨rfl, rfl⟩ := trodVars_none hV
  have k0 := h0
  have lt0 := places_lt k0
  obtain ⟨A0, c0, x0, rfl, hc0, hr0, hg0⟩ := Tells.row tells22 Try.underlying22 (hval 0 22 v0 rfl rfl) h0
  have hl0 : x0.length ≤ 9223372036854775807 := hr0.2.1
  obtain ⟨k, hp⟩ := InstanceRises.pure x0
  refine (colloquylaw09_InstanceRises.calls k _ _ _ true W hr0 hc0 rfl hp).mono fun e W' ⟨he, bel0⟩ => ?_
  have bel : Below W.heap.size W W' := bel0
  subst he
  exact ⟨_, rfl, _, _, _, [], _, [], hW', trodAll_mk1 (shut_bool Try.underlying4 _), (trodAll_cons_mk (Below.trod laidOut (by kernel_rfl) (of_decide_eq_true (by kernel_rfl)) k0 bel lt0) trodAll_mk0), rfl, bel.frame _, fun h => by cases h⟩
theorem over : Rows.instanceRisesRow.holds Try.pinned (OpenSpec.ofChange Rows.instanceRisesSpec) :=
  OpenClaim.holds_of_wide 3 Try.f3 rfl rfl rfl rfl rfl rfl rfl ⟨rfl, rfl, rfl, rfl, rfl⟩ rfl rfl rfl rfl rfl (by kernel_rfl) Try.func3 (by kernel_rfl)
    (of_decide_eq_true (by kernel_rfl)) (by unfold Func.isWrapper; first | (rw [if_pos (by decide +kernel)]; kernel_rfl) | (rw [if_neg (by decide +kernel)]; exact ⟨rfl, rfl⟩))
    (fun os started H enc _ => lifted os started H enc)
theorem proved : Rows.InstanceRisesSaid := over
end Go.Proofs.Ytkijkdifmoifaaa.instanceRises
namespace Go.Proofs.Ytkijkdifmoifaaa
/-- The row, under a short name, for the claim. -/
theorem instanceRises_holds : Rows.InstanceRisesSaid := instanceRises.proved
#print axioms instanceRises_holds
end Go.Proofs.Ytkijkdifmoifaaa
