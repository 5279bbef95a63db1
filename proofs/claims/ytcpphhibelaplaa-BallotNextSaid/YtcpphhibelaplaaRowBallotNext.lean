/- The row of the law BallotNext: at every input it answers true and leaves its arguments as they were; no condition. -/
import Derived.Test.YtcpphhibelaplaaRows
import Derived.Test.YtcpphhibelaplaaPx0
import Derived.Test.YtcpphhibelaplaaPx3
import Derived.Test.YtcpphhibelaplaaRead
import Derived.Test.YtcpphhibelaplaaLawBallotNext
import Derived.WalkKit
import Derived.ProofKit
import Derived.OpenShut
import Derived.ShutString
import Derived.ChangeOld
import Derived.Below
import Derived.SizedLaws
namespace Go.Proofs.Ytcpphhibelaplaa.ballotNext
open Go.ChangeShapes Go.WideShapes Go.ChangeAt Go.RowKit
open Go.ChangeMaps (open_string shut_string)
open Go.Proofs.YtcpphhibelaplaaW.PrintWords Go.Proofs.YtcpphhibelaplaaW.PrintLast Go.Proofs.YtcpphhibelaplaaW.Read Go.Proofs.Ytcpphhibelaplaa.P
set_option linter.unusedVariables false
theorem own : ownKnob Try.prog.godebug = none := by kernel_rfl
theorem laidOut : laidOutB Try.prog = true := by kernel_rfl
def good3 (n : Int) : Prop := (Lit.int .i64 n).wf = true
theorem tells3 : Tells Try.prog 3 (Kd.int .i64) good3 := Tells.int Try.underlying3
def good23 (x : S23) : Prop := good3 x.f0 ∧ good3 x.f1
theorem tells23 : Tells Try.prog 23 k23 good23 := Tells.iso (fun x : S23 => (x.f0, x.f1)) (fun p => ⟨p.1, p.2⟩) (fun _ => rfl) (Tells.struct Try.underlying23 (by kernel_rfl) (TellsF.cons (by kernel_rfl) (by kernel_rfl) tells3 (TellsF.one (by kernel_rfl) (by kernel_rfl) tells3)))
set_option maxRecDepth 100000 in
theorem lifted (os : Os) (started : os.Started) (H : Type) (enc : TypeId × Value → H) :
    ReturnsInHanded {} Try.checked os 4 .any (Rows.ballotNextSpec.pre6 enc Try.prog Try.f4 Rows.ballotNextRow.domain false) (Rows.ballotNextSpec.post enc Try.prog Try.f4 false true false false) := by
  refine returnsInHanded_of_change_sized (C := Try.checked) own started (by kernel_rfl) Try.func4
    (ChangeSpec.witness6 (enc := enc) (C := Try.checked) false ⟨#[], #[.agg #[.int .i64 0, .int .i64 0], .int .i64 0, .int .i64 0], []⟩ 8 (by kernel_rfl) (by kernel_rfl) (by kernel_rfl) (by kernel_rfl)) ?_
  intro W base args ds gs before hval0 hW hcnd hsz0 _
  have hval : ∀ (j : Nat) t v, Try.f4.params[j]? = some t → args[j]? = some v → Value.okWide Try.prog W .any base t v := hval0
  have hW' := hW
  obtain ⟨p, q, hA0, hV, rfl, hfz, hnd⟩ := hW
  have hA : DataW.TrodAll enc Try.prog W 0 (fun _ => true) true Try.f4.params.toList args.toList ds p := hA0
  rw [Try.params4] at hA hval
  obtain ⟨v0, vs0, d0, ds0, p0, q0, hargs, rfl, rfl, h0, r0⟩ := trodAll_cons hA
  obtain ⟨v1, vs1, d1, ds1, p1, q1, rfl, rfl, rfl, h1, r1⟩ := trodAll_cons r0
  obtain ⟨v2, vs2, d2, ds2, p2, q2, rfl, rfl, rfl, h2, r2⟩ := trodAll_cons r1
  obtain ⟨rfl, rfl, rfl⟩ := trodAll_nil r2
  obtain rfl : args = #[v0, v1, v2] := by cases args; simp_all
  obtain ⟨rfl, rfl⟩ := trodVars_none hV
  have k0 := h0
  have lt0 := places_lt k0
  obtain ⟨x0, cs0, rfl, hK0, hg0⟩ := Tells.agg tells23 Try.underlying23 (hval 0 23 v0 rfl rfl) h0
  have hcs0 := k23_open hK0
  obtain rfl := Array.ext' (ys := (#[.int .i64 x0.f0, .int .i64 x0.f1] : Array Value)) hcs0
  have hb0_0 : -9223372036854775808 ≤ x0.f0 ∧ x0.f0 ≤ 9223372036854775807 := wf_i64_bd (show (Lit.int .i64 _).wf = true from hg0.1)
  have hb0_1 : -9223372036854775808 ≤ x0.f1 ∧ x0.f1 ≤ 9223372036854775807 := wf_i64_bd (show (Lit.int .i64 _).wf = true from hg0.2)
  have k1 := h1
  have lt1 := places_lt k1
  obtain ⟨x1, rfl, rfl, rfl, hg1⟩ := open_int Try.underlying3 (hval 1 3 v1 rfl rfl) h1
  have hb1 : -9223372036854775808 ≤ x1 ∧ x1 ≤ 9223372036854775807 := wf_i64_bd hg1
  have k2 := h2
  have lt2 := places_lt k2
  obtain ⟨x2, rfl, rfl, rfl, hg2⟩ := open_int Try.underlying3 (hval 2 3 v2 rfl rfl) h2
  have hb2 : -9223372036854775808 ≤ x2 ∧ x2 ≤ 9223372036854775807 := wf_i64_bd hg2
  obtain ⟨k, hp⟩ := BallotNext.pure x0.f0 x0.f1 x1 x2
  refine (colloquylaw07_BallotNext.calls k _ _ _ _ true W rfl hp).mono fun e W' ⟨he, bel0⟩ => ?_
  have bel : Below W.heap.size W W' := bel0
  subst he
  exact ⟨_, rfl, _, _, _, [], _, [], hW', trodAll_mk1 (shut_bool Try.underlying4 _), (trodAll_cons_mk (Below.trod laidOut (by kernel_rfl) (of_decide_eq_true (by kernel_rfl)) k0 bel lt0) (trodAll_cons_mk (Below.trod laidOut (by kernel_rfl) (of_decide_eq_true (by kernel_rfl)) k1 bel lt1) (trodAll_cons_mk (Below.trod laidOut (by kernel_rfl) (of_decide_eq_true (by kernel_rfl)) k2 bel lt2) trodAll_mk0))), rfl, bel.frame _, fun h => by cases h⟩
theorem over : Rows.ballotNextRow.holds Try.pinned (OpenSpec.ofChange Rows.ballotNextSpec) :=
  OpenClaim.holds_of_wide 4 Try.f4 rfl rfl rfl rfl rfl rfl rfl ⟨rfl, rfl, rfl, rfl, rfl⟩ rfl rfl rfl rfl rfl (by kernel_rfl) Try.func4 (by kernel_rfl)
    (of_decide_eq_true (by kernel_rfl)) (by unfold Func.isWrapper; first | (rw [if_pos (by decide +kernel)]; kernel_rfl) | (rw [if_neg (by decide +kernel)]; exact ⟨rfl, rfl⟩))
    (fun os started H enc _ => lifted os started H enc)
theorem proved : Rows.BallotNextSaid := over
end Go.Proofs.Ytcpphhibelaplaa.ballotNext
namespace Go.Proofs.Ytcpphhibelaplaa
/-- The row, under a short name, for the claim. -/
theorem ballotNext_holds : Rows.BallotNextSaid := ballotNext.proved
#print axioms ballotNext_holds
end Go.Proofs.Ytcpphhibelaplaa
