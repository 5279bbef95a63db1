/- The row of the law RegainMore: at every input it answers true and leaves its arguments as they were; no condition. -/
import Derived.Test.YtomgiaakhpemaaaRows
import Derived.Test.YtomgiaakhpemaaaPx0
import Derived.Test.YtomgiaakhpemaaaPx17
import Derived.Test.YtomgiaakhpemaaaRead
import Derived.Test.YtomgiaakhpemaaaLawRegainMore
import Derived.WalkKit
import Derived.ProofKit
import Derived.OpenShut
import Derived.ShutString
import Derived.ChangeOld
import Derived.Below
import Derived.SizedLaws
namespace Go.Proofs.Ytomgiaakhpemaaa.regainMore
open Go.ChangeShapes Go.WideShapes Go.ChangeAt Go.RowKit
open Go.ChangeMaps (open_string shut_string)
open Go.Proofs.YtomgiaakhpemaaaW.PrintWords Go.Proofs.YtomgiaakhpemaaaW.PrintLast Go.Proofs.YtomgiaakhpemaaaW.Read Go.Proofs.Ytomgiaakhpemaaa.P
set_option linter.unusedVariables false
theorem own : ownKnob Try.prog.godebug = none := by kernel_rfl
theorem laidOut : laidOutB Try.prog = true := by kernel_rfl
def good3 (n : Int) : Prop := (Lit.int .i64 n).wf = true
theorem tells3 : Tells Try.prog 3 (Kd.int .i64) good3 := Tells.int Try.underlying3
def good26 (x : S26) : Prop := good3 x.f0 ∧ good3 x.f1
theorem tells26 : Tells Try.prog 26 k26 good26 := Tells.iso (fun x : S26 => (x.f0, x.f1)) (fun p => ⟨p.1, p.2⟩) (fun _ => rfl) (Tells.struct Try.underlying26 (by kernel_rfl) (TellsF.cons (by kernel_rfl) (by kernel_rfl) tells3 (TellsF.one (by kernel_rfl) (by kernel_rfl) tells3)))
def good9 (s : ByteArray) : Prop := s.size ≤ maxLen
theorem tells9 : Tells Try.prog 9 Kd.string good9 := Tells.string Try.underlying9
def good28 (x : S28) : Prop := good3 x.f0 ∧ good3 x.f1 ∧ good3 x.f2 ∧ good3 x.f3 ∧ good3 x.f4 ∧ good9 x.f5
theorem tells28 : Tells Try.prog 28 k28 good28 := Tells.iso (fun x : S28 => (x.f0, x.f1, x.f2, x.f3, x.f4, x.f5)) (fun p => ⟨p.1, p.2.1, p.2.2.1, p.2.2.2.1, p.2.2.2.2.1, p.2.2.2.2.2⟩) (fun _ => rfl) (Tells.struct Try.underlying28 (by kernel_rfl) (TellsF.cons (by kernel_rfl) (by kernel_rfl) tells3 (TellsF.cons (by kernel_rfl) (by kernel_rfl) tells3 (TellsF.cons (by kernel_rfl) (by kernel_rfl) tells3 (TellsF.cons (by kernel_rfl) (by kernel_rfl) tells3 (TellsF.cons (by kernel_rfl) (by kernel_rfl) tells3 (TellsF.one (by kernel_rfl) (by kernel_rfl) tells9)))))))
def good29 (xs : (List Int)) : Prop := ∀ x, x ∈ xs → good3 x
theorem tells29 : Tells Try.prog 29 (Kd.slice 3 (Kd.int .i64)) good29 := Tells.slice Try.underlying29 (by kernel_rfl) tells3
def good31 (x : S31) : Prop := good3 x.f0 ∧ good29 x.f1
theorem tells31 : Tells Try.prog 31 k31 good31 := Tells.iso (fun x : S31 => (x.f0, x.f1)) (fun p => ⟨p.1, p.2⟩) (fun _ => rfl) (Tells.struct Try.underlying31 (by kernel_rfl) (TellsF.cons (by kernel_rfl) (by kernel_rfl) tells3 (TellsF.one (by kernel_rfl) (by kernel_rfl) tells29)))
def good33 (x : S33) : Prop := good3 x.f0 ∧ good26 x.f1 ∧ good26 x.f2 ∧ good28 x.f3 ∧ good31 x.f4
theorem tells33 : Tells Try.prog 33 k33 good33 := Tells.iso (fun x : S33 => (x.f0, x.f1, x.f2, x.f3, x.f4)) (fun p => ⟨p.1, p.2.1, p.2.2.1, p.2.2.2.1, p.2.2.2.2⟩) (fun _ => rfl) (Tells.struct Try.underlying33 (by kernel_rfl) (TellsF.cons (by kernel_rfl) (by kernel_rfl) tells3 (TellsF.cons (by kernel_rfl) (by kernel_rfl) tells26 (TellsF.cons (by kernel_rfl) (by kernel_rfl) tells26 (TellsF.cons (by kernel_rfl) (by kernel_rfl) tells28 (TellsF.one (by kernel_rfl) (by kernel_rfl) tells31))))))
def good35 (x : S35) : Prop := good3 x.f0 ∧ good33 x.f1
theorem tells35 : Tells Try.prog 35 k35 good35 := Tells.iso (fun x : S35 => (x.f0, x.f1)) (fun p => ⟨p.1, p.2⟩) (fun _ => rfl) (Tells.struct Try.underlying35 (by kernel_rfl) (TellsF.cons (by kernel_rfl) (by kernel_rfl) tells3 (TellsF.one (by kernel_rfl) (by kernel_rfl) tells33)))
def good22 (xs : (List S35)) : Prop := ∀ x, x ∈ xs → good35 x
theorem tells22 : Tells Try.prog 22 (Kd.slice 35 k35) good22 := Tells.slice Try.underlying22 (by kernel_rfl) tells35
set_option maxRecDepth 100000 in
theorem lifted (os : Os) (started : os.Started) (H : Type) (enc : TypeId × Value → H) :
    ReturnsInHanded {} Try.checked os 7 .any (Rows.regainMoreSpec.pre6 enc Try.prog Try.f7 Rows.regainMoreRow.domain false) (Rows.regainMoreSpec.post enc Try.prog Try.f7 false true false false) := by
  refine returnsInHanded_of_change_sized (C := Try.checked) own started (by kernel_rfl) Try.func7
    (ChangeSpec.witness6 (enc := enc) (C := Try.checked) false ⟨#[], #[.int .i64 0, .int .i64 0, .slice none 0 0, .agg #[.int .i64 0, .int .i64 0, .int .i64 0, .int .i64 0, .int .i64 0, .int .i64 0, .int .i64 0, .int .i64 0, .int .i64 0, .int .i64 0, .int .i64 0, .string ByteArray.empty, .int .i64 0, .slice none 0 0]], []⟩ 8 (by kernel_rfl) (by kernel_rfl) (by kernel_rfl) (by kernel_rfl)) ?_
  intro W base args ds gs before hval0 hW hcnd hsz0 _
  have hval : ∀ (j : Nat) t v, Try.f7.params[j]? = some t → args[j]? = some v → Value.okWide Try.prog W .any base t v := hval0
  have hW' := hW
  obtain ⟨p, q, hA0, hV, rfl, hfz, hnd⟩ := hW
  have hA : DataW.TrodAll enc Try.prog W 0 (fun _ => true) true Try.f7.params.toList args.toList ds p := hA0
  rw [Try.params7] at hA hval
  obtain ⟨v0, vs0, d0, ds0, p0, q0, hargs, rfl, rfl, h0, r0⟩ := trodAll_cons hA
  obtain ⟨v1, vs1, d1, ds1, p1, q1, rfl, rfl, rfl, h1, r1⟩ := trodAll_cons r0
  obtain ⟨v2, vs2, d2, ds2, p2, q2, rfl, rfl, rfl, h2, r2⟩ := trodAll_cons r1
  obtain ⟨v3, vs3, d3, ds3, p3, q3, rfl, rfl, rfl, h3, r3⟩ := trodAll_cons r2
  obtain ⟨rfl, rfl, rfl⟩ := trodAll_nil r3
  obtain rfl : args = #[v0, v1, v2, v3] := by cases args; simp_all
  obtain ⟨rfl, rfl⟩ := trodVars_none hV
  have k0 := h0
  have lt0 := places_lt k0
  obtain ⟨x0, rfl, rfl, rfl, hg0⟩ := open_int Try.underlying3 (hval 0 3 v0 rfl rfl) h0
  have hb0 : -9223372036854775808 ≤ x0 ∧ x0 ≤ 9223372036854775807 := wf_i64_bd hg0
  have k1 := h1
  have lt1 := places_lt k1
  obtain ⟨x1, rfl, rfl, rfl, hg1⟩ := open_int Try.underlying3 (hval 1 3 v1 rfl rfl) h1
  have hb1 : -9223372036854775808 ≤ x1 ∧ x1 ≤ 9223372036854775807 := wf_i64_bd hg1
  have k2 := h2
  have lt2 := places_lt k2
  obtain ⟨A2, c2, x2, rfl, hc2, hr2, hg2⟩ := Tells.row tells22 Try.underlying22 (hval 2 22 v2 rfl rfl) h2
  have hl2 : x2.length ≤ 9223372036854775807 := hr2.2.1
  have k3 := h3
  have lt3 := places_lt k3
  obtain ⟨x3, cs3, rfl, hK3, hg3⟩ := Tells.agg tells35 Try.underlying35 (hval 3 35 v3 rfl rfl) h3
  obtain ⟨A3_13, c3_13, hcs3, hc3_13, hr3_13⟩ := k35_open hK3
  obtain rfl := Array.ext' (ys := (#[.int .i64 x3.f0, .int .i64 x3.f1.f0, .int .i64 x3.f1.f1.f0, .int .i64 x3.f1.f1.f1, .int .i64 x3.f1.f2.f0, .int .i64 x3.f1.f2.f1, .int .i64 x3.f1.f3.f0, .int .i64 x3.f1.f3.f1, .int .i64 x3.f1.f3.f2, .int .i64 x3.f1.f3.f3, .int .i64 x3.f1.f3.f4, .string x3.f1.f3.f5, .int .i64 x3.f1.f4.f0, .slice A3_13 x3.f1.f4.f1.length c3_13] : Array Value)) hcs3
  have hb3_0 : -9223372036854775808 ≤ x3.f0 ∧ x3.f0 ≤ 9223372036854775807 := wf_i64_bd (show (Lit.int .i64 _).wf = true from hg3.1)
  have hb3_1 : -9223372036854775808 ≤ x3.f1.f0 ∧ x3.f1.f0 ≤ 9223372036854775807 := wf_i64_bd (show (Lit.int .i64 _).wf = true from hg3.2.1)
  have hb3_2 : -9223372036854775808 ≤ x3.f1.f1.f0 ∧ x3.f1.f1.f0 ≤ 9223372036854775807 := wf_i64_bd (show (Lit.int .i64 _).wf = true from hg3.2.2.1.1)
  have hb3_3 : -9223372036854775808 ≤ x3.f1.f1.f1 ∧ x3.f1.f1.f1 ≤ 9223372036854775807 := wf_i64_bd (show (Lit.int .i64 _).wf = true from hg3.2.2.1.2)
  have hb3_4 : -9223372036854775808 ≤ x3.f1.f2.f0 ∧ x3.f1.f2.f0 ≤ 9223372036854775807 := wf_i64_bd (show (Lit.int .i64 _).wf = true from hg3.2.2.2.1.1)
  have hb3_5 : -9223372036854775808 ≤ x3.f1.f2.f1 ∧ x3.f1.f2.f1 ≤ 9223372036854775807 := wf_i64_bd (show (Lit.int .i64 _).wf = true from hg3.2.2.2.1.2)
  have hb3_6 : -9223372036854775808 ≤ x3.f1.f3.f0 ∧ x3.f1.f3.f0 ≤ 9223372036854775807 := wf_i64_bd (show (Lit.int .i64 _).wf = true from hg3.2.2.2.2.1.1)
  have hb3_7 : -9223372036854775808 ≤ x3.f1.f3.f1 ∧ x3.f1.f3.f1 ≤ 9223372036854775807 := wf_i64_bd (show (Lit.int .i64 _).wf = true from hg3.2.2.2.2.1.2.1)
  have hb3_8 : -9223372036854775808 ≤ x3.f1.f3.f2 ∧ x3.f1.f3.f2 ≤ 9223372036854775807 := wf_i64_bd (show (Lit.int .i64 _).wf = true from hg3.2.2.2.2.1.2.2.1)
  have hb3_9 : -9223372036854775808 ≤ x3.f1.f3.f3 ∧ x3.f1.f3.f3 ≤ 9223372036854775807 := wf_i64_bd (show (Lit.int .i64 _).wf = true from hg3.2.2.2.2.1.2.2.2.1)
  have hb3_10 : -9223372036854775808 ≤ x3.f1.f3.f4 ∧ x3.f1.f3.f4 ≤ 9223372036854775807 := wf_i64_bd (show (Lit.int .i64 _).wf = true from hg3.2.2.2.2.1.2.2.2.2.1)
  have hb3_12 : -9223372036854775808 ≤ x3.f1.f4.f0 ∧ x3.f1.f4.f0 ≤ 9223372036854775807 := wf_i64_bd (show (Lit.int .i64 _).wf = true from hg3.2.2.2.2.2.1)
  have hl3_13 : x3.f1.f4.f1.length ≤ 9223372036854775807 := hr3_13.2.1
  obtain ⟨k, hp⟩ := RegainMore.pure x0 x1 x2 x3
  refine (colloquylaw10_RegainMore.calls k _ _ (fun k_ => k_ < W.heap.size) _ _ _ _ _ _ _ _ _ _ _ _ _ _ _ _ (fun k_ => k_ < W.heap.size) _ _ _ true W (Kd.V_mk hc2 (Kd.C_F k35_heap hr2)) (Kd.V_mk hc3_13 (Kd.C_F (Kd.heap_int .i64) hr3_13)) rfl hp).mono fun e W' ⟨he, bel0⟩ => ?_
  have bel : Below W.heap.size W W' := bel0
  subst he
  exact ⟨_, rfl, _, _, _, [], _, [], hW', trodAll_mk1 (shut_bool Try.underlying4 _), (trodAll_cons_mk (Below.trod laidOut (by kernel_rfl) (of_decide_eq_true (by kernel_rfl)) k0 bel lt0) (trodAll_cons_mk (Below.trod laidOut (by kernel_rfl) (of_decide_eq_true (by kernel_rfl)) k1 bel lt1) (trodAll_cons_mk (Below.trod laidOut (by kernel_rfl) (of_decide_eq_true (by kernel_rfl)) k2 bel lt2) (trodAll_cons_mk (Below.trod laidOut (by kernel_rfl) (of_decide_eq_true (by kernel_rfl)) k3 bel lt3) trodAll_mk0)))), rfl, bel.frame _, fun h => by cases h⟩
theorem over : Rows.regainMoreRow.holds Try.pinned (OpenSpec.ofChange Rows.regainMoreSpec) :=
  OpenClaim.holds_of_wide 7 Try.f7 rfl rfl rfl rfl rfl rfl rfl ⟨rfl, rfl, rfl, rfl, rfl⟩ rfl rfl rfl rfl rfl (by kernel_rfl) Try.func7 (by kernel_rfl)
    (of_decide_eq_true (by kernel_rfl)) (by unfold Func.isWrapper; first | (rw [if_pos (by decide +kernel)]; kernel_rfl) | (rw [if_neg (by decide +kernel)]; exact ⟨rfl, rfl⟩))
    (fun os started H enc _ => lifted os started H enc)
theorem proved : Rows.RegainMoreSaid := over
end Go.Proofs.Ytomgiaakhpemaaa.regainMore
namespace Go.Proofs.Ytomgiaakhpemaaa
/-- The row, under a short name, for the claim. -/
theorem regainMore_holds : Rows.RegainMoreSaid := regainMore.proved
#print axioms regainMore_holds
end Go.Proofs.Ytomgiaakhpemaaa
