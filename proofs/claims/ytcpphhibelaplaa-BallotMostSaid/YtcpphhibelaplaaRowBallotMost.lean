/- The row of the law BallotMost: at every input it answers true and leaves its arguments as they were; no condition. -/
import Derived.Test.YtcpphhibelaplaaRows
import Derived.Test.YtcpphhibelaplaaPx0
import Derived.Test.YtcpphhibelaplaaPx5
import Derived.Test.YtcpphhibelaplaaRead
import Derived.Test.YtcpphhibelaplaaLawBallotMost
import Derived.WalkKit
import Derived.ProofKit
import Derived.OpenShut
import Derived.ShutString
import Derived.ChangeOld
import Derived.Below
import Derived.SizedLaws
namespace Go.Proofs.Ytcpphhibelaplaa.ballotMost
open Go.ChangeShapes Go.WideShapes Go.ChangeAt Go.RowKit
open Go.ChangeMaps (open_string shut_string)
open Go.Proofs.YtcpphhibelaplaaW.PrintWords Go.Proofs.YtcpphhibelaplaaW.PrintLast Go.Proofs.YtcpphhibelaplaaW.Read Go.Proofs.Ytcpphhibelaplaa.P
set_option linter.unusedVariables false
theorem own : ownKnob Try.prog.godebug = none := by kernel_rfl
theorem laidOut : laidOutB Try.prog = true := by kernel_rfl
def good3 (n : Int) : Prop := (Lit.int .i64 n).wf = true
theorem tells3 : Tells Try.prog 3 (Kd.int .i64) good3 := Tells.int Try.underlying3
def good23 (x : S23) : Prop := good3 x.f0 ∧ good3 x.f1
theorem tells23 : Tells Try.prog 23 k23 good23 := Tells.iso (fun x : S23 => (x.f0, x.f1)) (fun p => ⟨p.1, p.2⟩) (fun _ => rfl) (Tells.struct Try.underlying23 (by kernel_rfl) (TellsF.cons (by kernel_rfl) (by kernel_rfl) tells3 (TellsF.one (by kernel_rfl) (by kernel_rfl) tells3)))
def good33 (xs : (List S23)) : Prop := ∀ x, x ∈ xs → good23 x
theorem tells33 : Tells Try.prog 33 (Kd.slice 23 k23) good33 := Tells.slice Try.underlying33 (by kernel_rfl) tells23
set_option maxRecDepth 100000 in
theorem lifted (os : Os) (started : os.Started) (H : Type) (enc : TypeId × Value → H) :
    ReturnsInHanded {} Try.checked os 6 .any (Rows.ballotMostSpec.pre6 enc Try.prog Try.f6 Rows.ballotMostRow.domain false) (Rows.ballotMostSpec.post enc Try.prog Try.f6 false true false false) := by
  refine returnsInHanded_of_change_sized (C := Try.checked) own started (by kernel_rfl) Try.func6
    (ChangeSpec.witness6 (enc := enc) (C := Try.checked) false ⟨#[], #[.slice none 0 0], []⟩ 8 (by kernel_rfl) (by kernel_rfl) (by kernel_rfl) (by kernel_rfl)) ?_
  intro W base args ds gs before hval0 hW hcnd hsz0 _
  have hval : ∀ (j : Nat) t v, Try.f6.params[j]? = some t → args[j]? = some v → Value.okWide Try.prog W .any base t v := hval0
  have hW' := hW
  obtain ⟨p, q, hA0, hV, rfl, hfz, hnd⟩ := hW
  have hA : DataW.TrodAll enc Try.prog W 0 (fun _ => true) true Try.f6.params.toList args.toList ds p := hA0
  rw [Try.params6] at hA hval
  obtain ⟨v0, vs0, d0, ds0, p0, q0, hargs, rfl, rfl, h0, r0⟩ := trodAll_cons hA
  obtain ⟨rfl, rfl, rfl⟩ := trodAll_nil r0
  obtain rfl : args = #[v0] := by cases args; simp_all
  obtain ⟨rfl, rfl⟩ := trodVars_none hV
  have k0 := h0
  have lt0 := places_lt k0
  obtain ⟨A0, c0, x0, rfl, hc0, hr0, hg0⟩ := Tells.row tells33 Try.underlying33 (hval 0 33 v0 rfl rfl) h0
  have hl0 : x0.length ≤ 9223372036854775807 := hr0.2.1
  obtain ⟨k, hp⟩ := BallotMost.pure x0 hl0
  refine (colloquylaw07_BallotMost.calls k _ _ _ true W hr0 hc0 hp).mono fun e W' ⟨he, bel0⟩ => ?_
  have bel : Below W.heap.size W W' := bel0
  subst he
  exact ⟨_, rfl, _, _, _, [], _, [], hW', trodAll_mk1 (shut_bool Try.underlying4 _), (trodAll_cons_mk (Below.trod laidOut (by kernel_rfl) (of_decide_eq_true (by kernel_rfl)) k0 bel lt0) trodAll_mk0), rfl, bel.frame _, fun h => by cases h⟩
theorem over : Rows.ballotMostRow.holds Try.pinned (OpenSpec.ofChange Rows.ballotMostSpec) :=
  OpenClaim.holds_of_wide 6 Try.f6 rfl rfl rfl rfl rfl rfl rfl ⟨rfl, rfl, rfl, rfl, rfl⟩ rfl rfl rfl rfl rfl (by kernel_rfl) Try.func6 (by kernel_rfl)
    (of_decide_eq_true (by kernel_rfl)) (by unfold Func.isWrapper; first | (rw [if_pos (by decide +kernel)]; kernel_rfl) | (rw [if_neg (by decide +kernel)]; exact ⟨rfl, rfl⟩))
    (fun os started H enc _ => lifted os started H enc)
theorem proved : Rows.BallotMostSaid := over
end Go.Proofs.Ytcpphhibelaplaa.ballotMost
namespace Go.Proofs.Ytcpphhibelaplaa
/-- The row, under a short name, for the claim. -/
theorem ballotMost_holds : Rows.BallotMostSaid := ballotMost.proved
#print axioms ballotMost_holds
end Go.Proofs.Ytcpphhibelaplaa
