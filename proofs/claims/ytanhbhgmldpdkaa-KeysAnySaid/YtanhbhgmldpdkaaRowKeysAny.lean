/- The row of the law KeysAny: at every input it answers true and leaves its arguments as they were; no condition. -/
import Derived.Test.YtanhbhgmldpdkaaRows
import Derived.Test.YtanhbhgmldpdkaaPx0
import Derived.Test.YtanhbhgmldpdkaaPx10
import Derived.Test.YtanhbhgmldpdkaaRead
import Derived.Test.YtanhbhgmldpdkaaLawKeysAny
import Derived.WalkKit
import Derived.ProofKit
import Derived.OpenShut
import Derived.ShutString
import Derived.ChangeOld
import Derived.Below
import Derived.SizedLaws
namespace Go.Proofs.Ytanhbhgmldpdkaa.keysAny
open Go.ChangeShapes Go.WideShapes Go.ChangeAt Go.RowKit
open Go.ChangeMaps (open_string shut_string)
open Go.Proofs.YtanhbhgmldpdkaaW.PrintWords Go.Proofs.YtanhbhgmldpdkaaW.PrintLast Go.Proofs.YtanhbhgmldpdkaaW.Read Go.Proofs.Ytanhbhgmldpdkaa.P
set_option linter.unusedVariables false
theorem own : ownKnob Try.prog.godebug = none := by kernel_rfl
theorem laidOut : laidOutB Try.prog = true := by kernel_rfl
def good3 (n : Int) : Prop := (Lit.int .i64 n).wf = true
theorem tells3 : Tells Try.prog 3 (Kd.int .i64) good3 := Tells.int Try.underlying3
def good9 (s : ByteArray) : Prop := s.size ≤ maxLen
theorem tells9 : Tells Try.prog 9 Kd.string good9 := Tells.string Try.underlying9
def good23 (x : S23) : Prop := good3 x.f0 ∧ good3 x.f1 ∧ good3 x.f2 ∧ good3 x.f3 ∧ good3 x.f4 ∧ good9 x.f5
theorem tells23 : Tells Try.prog 23 k23 good23 := Tells.iso (fun x : S23 => (x.f0, x.f1, x.f2, x.f3, x.f4, x.f5)) (fun p => ⟨p.1, p.2.1, p.2.2.1, p.2.2.2.1, p.2.2.2.2.1, p.2.2.2.2.2⟩) (fun _ => rfl) (Tells.struct Try.underlying23 (by kernel_rfl) (TellsF.cons (by kernel_rfl) (by kernel_rfl) tells3 (TellsF.cons (by kernel_rfl) (by kernel_rfl) tells3 (TellsF.cons (by kernel_rfl) (by kernel_rfl) tells3 (TellsF.cons (by kernel_rfl) (by kernel_rfl) tells3 (TellsF.cons (by kernel_rfl) (by kernel_rfl) tells3 (TellsF.one (by kernel_rfl) (by kernel_rfl) tells9)))))))
def good33 (xs : (List S23)) : Prop := ∀ x, x ∈ xs → good23 x
theorem tells33 : Tells Try.prog 33 (Kd.slice 23 k23) good33 := Tells.slice Try.underlying33 (by kernel_rfl) tells23
set_option maxRecDepth 100000 in
theorem lifted (os : Os) (started : os.Started) (H : Type) (enc : TypeId × Value → H) :
    ReturnsInHanded {} Try.checked os 8 .any (Rows.keysAnySpec.pre6 enc Try.prog Try.f8 Rows.keysAnyRow.domain false) (Rows.keysAnySpec.post enc Try.prog Try.f8 false true false false) := by
  refine returnsInHanded_of_change_sized (C := Try.checked) own started (by kernel_rfl) Try.func8
    (ChangeSpec.witness6 (enc := enc) (C := Try.checked) false ⟨#[], #[.agg #[.int .i64 0, .int .i64 0, .int .i64 0, .int .i64 0, .int .i64 0, .string ByteArray.empty], .slice none 0 0, .agg #[.int .i64 0, .int .i64 0, .int .i64 0, .int .i64 0, .int .i64 0, .string ByteArray.empty]], []⟩ 8 (by kernel_rfl) (by kernel_rfl) (by kernel_rfl) (by kernel_rfl)) ?_
  intro W base args ds gs before hval0 hW hcnd hsz0 _
  have hval : ∀ (j : Nat) t v, Try.f8.params[j]? = some t → args[j]? = some v → Value.okWide Try.prog W .any base t v := hval0
  have hW' := hW
  obtain ⟨p, q, hA0, hV, rfl, hfz, hnd⟩ := hW
  have hA : DataW.TrodAll enc Try.prog W 0 (fun _ => true) true Try.f8.params.toList args.toList ds p := hA0
  rw [Try.params8] at hA hval
  obtain ⟨v0, vs0, d0, ds0, p0, q0, hargs, rfl, rfl, h0, r0⟩ := trodAll_cons hA
  obtain ⟨v1, vs1, d1, ds1, p1, q1, rfl, rfl, rfl, h1, r1⟩ := trodAll_cons r0
  obtain ⟨v2, vs2, d2, ds2, p2, q2, rfl, rfl, rfl, h2, r2⟩ := trodAll_cons r1
  obtain ⟨rfl, rfl, rfl⟩ := trodAll_nil r2
  obtain rfl : args = #[v0, v1, v2] := by cases args; simp_all
  obtain ⟨rfl, rfl⟩ := trodVars_none hV
  have k0 := h0
  have lt0 := places_lt k0
  obtain ⟨x0, cs0, rfl, hK0, hg0⟩ := Tells.agg tells23 Try.underlying23 (hval 0 23 v0 rfl rfl) h0
  have hcs0 := k23_open hK0
  obtain rfl := Array.ext' (ys := (#[.int .i64 x0.f0, .int .i64 x0.f1, .int .i64 x0.f2, .int .i64 x0.f3, .int .i64 x0.f4, .string x0.f5] : Array Value)) hcs0
  have hb0_0 : -9223372036854775808 ≤ x0.f0 ∧ x0.f0 ≤ 9223372036854775807 := wf_i64_bd (show (Lit.int .i64 _).wf = true from hg0.1)
  have hb0_1 : -9223372036854775808 ≤ x0.f1 ∧ x0.f1 ≤ 9223372036854775807 := wf_i64_bd (show (Lit.int .i64 _).wf = true from hg0.2.1)
  have hb0_2 : -9223372036854775808 ≤ x0.f2 ∧ x0.f2 ≤ 9223372036854775807 := wf_i64_bd (show (Lit.int .i64 _).wf = true from hg0.2.2.1)
  have hb0_3 : -9223372036854775808 ≤ x0.f3 ∧ x0.f3 ≤ 9223372036854775807 := wf_i64_bd (show (Lit.int .i64 _).wf = true from hg0.2.2.2.1)
  have hb0_4 : -9223372036854775808 ≤ x0.f4 ∧ x0.f4 ≤ 9223372036854775807 := wf_i64_bd (show (Lit.int .i64 _).wf = true from hg0.2.2.2.2.1)
  have k1 := h1
  have lt1 := places_lt k1
  obtain ⟨A1, c1, x1, rfl, hc1, hr1, hg1⟩ := Tells.row tells33 Try.underlying33 (hval 1 33 v1 rfl rfl) h1
  have hl1 : x1.length ≤ 9223372036854775807 := hr1.2.1
  have k2 := h2
  have lt2 := places_lt k2
  obtain ⟨x2, cs2, rfl, hK2, hg2⟩ := Tells.agg tells23 Try.underlying23 (hval 2 23 v2 rfl rfl) h2
  have hcs2 := k23_open hK2
  obtain rfl := Array.ext' (ys := (#[.int .i64 x2.f0, .int .i64 x2.f1, .int .i64 x2.f2, .int .i64 x2.f3, .int .i64 x2.f4, .string x2.f5] : Array Value)) hcs2
  have hb2_0 : -9223372036854775808 ≤ x2.f0 ∧ x2.f0 ≤ 9223372036854775807 := wf_i64_bd (show (Lit.int .i64 _).wf = true from hg2.1)
  have hb2_1 : -9223372036854775808 ≤ x2.f1 ∧ x2.f1 ≤ 9223372036854775807 := wf_i64_bd (show (Lit.int .i64 _).wf = true from hg2.2.1)
  have hb2_2 : -9223372036854775808 ≤ x2.f2 ∧ x2.f2 ≤ 9223372036854775807 := wf_i64_bd (show (Lit.int .i64 _).wf = true from hg2.2.2.1)
  have hb2_3 : -9223372036854775808 ≤ x2.f3 ∧ x2.f3 ≤ 9223372036854775807 := wf_i64_bd (show (Lit.int .i64 _).wf = true from hg2.2.2.2.1)
  have hb2_4 : -9223372036854775808 ≤ x2.f4 ∧ x2.f4 ≤ 9223372036854775807 := wf_i64_bd (show (Lit.int .i64 _).wf = true from hg2.2.2.2.2.1)
  obtain ⟨k, hp⟩ := KeysAny.pure x0 x1 x2
  refine (colloquylaw05_KeysAny.calls k _ _ _ _ _ _ _ _ _ _ _ _ _ _ _ true W hr1 hc1 rfl hp).mono fun e W' ⟨he, bel0⟩ => ?_
  have bel : Below W.heap.size W W' := bel0
  subst he
  exact ⟨_, rfl, _, _, _, [], _, [], hW', trodAll_mk1 (shut_bool Try.underlying4 _), (trodAll_cons_mk (Below.trod laidOut (by kernel_rfl) (of_decide_eq_true (by kernel_rfl)) k0 bel lt0) (trodAll_cons_mk (Below.trod laidOut (by kernel_rfl) (of_decide_eq_true (by kernel_rfl)) k1 bel lt1) (trodAll_cons_mk (Below.trod laidOut (by kernel_rfl) (of_decide_eq_true (by kernel_rfl)) k2 bel lt2) trodAll_mk0))), rfl, bel.frame _, fun h => by cases h⟩
theorem over : Rows.keysAnyRow.holds Try.pinned (OpenSpec.ofChange Rows.keysAnySpec) :=
  OpenClaim.holds_of_wide 8 Try.f8 rfl rfl rfl rfl rfl rfl rfl ⟨rfl, rfl, rfl, rfl, rfl⟩ rfl rfl rfl rfl rfl (by kernel_rfl) Try.func8 (by kernel_rfl)
    (of_decide_eq_true (by kernel_rfl)) (by unfold Func.isWrapper; first | (rw [if_pos (by decide +kernel)]; kernel_rfl) | (rw [if_neg (by decide +kernel)]; exact ⟨rfl, rfl⟩))
    (fun os started H enc _ => lifted os started H enc)
theorem proved : Rows.KeysAnySaid := over
end Go.Proofs.Ytanhbhgmldpdkaa.keysAny
namespace Go.Proofs.Ytanhbhgmldpdkaa
/-- The row, under a short name, for the claim. -/
theorem keysAny_holds : Rows.KeysAnySaid := keysAny.proved
#print axioms keysAny_holds
end Go.Proofs.Ytanhbhgmldpdkaa
