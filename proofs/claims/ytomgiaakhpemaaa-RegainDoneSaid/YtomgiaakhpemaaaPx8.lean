/- Plain Lean functions and their contracts over the translation, written by a program of this session (myprint.py, over the kit's print); no condition but each contract's own. -/
import Derived.Test.YtomgiaakhpemaaaPx0
import Derived.Test.YtomgiaakhpemaaaPx4
import Derived.Test.YtomgiaakhpemaaaPx7
namespace Go.Proofs.Ytomgiaakhpemaaa.P
open Go.RowKit Go.Proofs.YtomgiaakhpemaaaW.PrintWords Go.Proofs.YtomgiaakhpemaaaW.PrintLast Go.Proofs.YtomgiaakhpemaaaW.PrintMore
attribute [local go_sem] max2_int min2_int max_two min_two max_three min_three max_four min_four   -- for this text's walks alone
set_option linter.unusedVariables false
set_option linter.unusedSimpArgs false

/-! ### colloquylaw10_awake: function 8 -/
def colloquylaw10_awake.f  : Option (Bool) := (regain_Decide.f 3 1 (([(⟨1, (⟨0, (⟨0, 0⟩ : S26), (⟨0, 0⟩ : S26), (⟨0, 0, 0, 0, 0, (⟨#[]⟩ : ByteArray)⟩ : S28), (⟨0, ([] : List Int)⟩ : S31)⟩ : S33)⟩ : S35), (⟨3, (⟨0, (⟨0, 0⟩ : S26), (⟨0, 0⟩ : S26), (⟨0, 0, 0, 0, 0, (⟨#[]⟩ : ByteArray)⟩ : S28), (⟨0, ([] : List Int)⟩ : S31)⟩ : S33)⟩ : S35)] : List (S35)))).bind fun bt194 => ((regain_Decide.f 3 1 (([(⟨1, (⟨1, (⟨0, 1⟩ : S26), (⟨0, 1⟩ : S26), (⟨0, 0, 0, 0, 0, (⟨#[]⟩ : ByteArray)⟩ : S28), (⟨0, ([] : List Int)⟩ : S31)⟩ : S33)⟩ : S35), (⟨3, (⟨0, (⟨0, 0⟩ : S26), (⟨0, 0⟩ : S26), (⟨0, 0, 0, 0, 0, (⟨#[]⟩ : ByteArray)⟩ : S28), (⟨0, ([] : List Int)⟩ : S31)⟩ : S33)⟩ : S35)] : List (S35)))).bind fun bt206 => (if bt194.1 = 4 then (if bt206.1 = 3 then ((regain_Quorum.f 3).bind fun t218 => (some (t218 == 2))) else (some false)) else (some false)))
set_option maxHeartbeats 8000000 in
set_option maxRecDepth 100000 in
theorem colloquylaw10_awake.calls  (r : Bool) (w : World) (h : colloquylaw10_awake.f  = some r) :
  Calls Try.prog 8 #[] w fun e w' => e = .returned (.bool r) ∧ Below w.heap.size w w' := by
 have hu35 := Try.underlying35
 have hu26 := Try.underlying26
 have hu33 := Try.underlying33
 have hu37 := Try.underlying37
 have HB := Aside0.mk (Below.refl w.heap.size w)
 have H : ((regain_Decide.f 3 1 (([(⟨1, (⟨0, (⟨0, 0⟩ : S26), (⟨0, 0⟩ : S26), (⟨0, 0, 0, 0, 0, (⟨#[]⟩ : ByteArray)⟩ : S28), (⟨0, ([] : List Int)⟩ : S31)⟩ : S33)⟩ : S35), (⟨3, (⟨0, (⟨0, 0⟩ : S26), (⟨0, 0⟩ : S26), (⟨0, 0, 0, 0, 0, (⟨#[]⟩ : ByteArray)⟩ : S28), (⟨0, ([] : List Int)⟩ : S31)⟩ : S33)⟩ : S35)] : List (S35)))).bind fun bt194 => ((regain_Decide.f 3 1 (([(⟨1, (⟨1, (⟨0, 1⟩ : S26), (⟨0, 1⟩ : S26), (⟨0, 0, 0, 0, 0, (⟨#[]⟩ : ByteArray)⟩ : S28), (⟨0, ([] : List Int)⟩ : S31)⟩ : S33)⟩ : S35), (⟨3, (⟨0, (⟨0, 0⟩ : S26), (⟨0, 0⟩ : S26), (⟨0, 0, 0, 0, 0, (⟨#[]⟩ : ByteArray)⟩ : S28), (⟨0, ([] : List Int)⟩ : S31)⟩ : S33)⟩ : S35)] : List (S35)))).bind fun bt206 => (if bt194.1 = 4 then (if bt206.1 = 3 then ((regain_Quorum.f 3).bind fun t218 => (some (t218 == 2))) else (some false)) else (some false)))) = some r := h
 clear h
 obtain ⟨y188, hy188⟩ : ∃ y_ : List (S35), y_ = (([(⟨1, (⟨0, (⟨0, 0⟩ : S26), (⟨0, 0⟩ : S26), (⟨0, 0, 0, 0, 0, (⟨#[]⟩ : ByteArray)⟩ : S28), (⟨0, ([] : List Int)⟩ : S31)⟩ : S33)⟩ : S35), (⟨3, (⟨0, (⟨0, 0⟩ : S26), (⟨0, 0⟩ : S26), (⟨0, 0, 0, 0, 0, (⟨#[]⟩ : ByteArray)⟩ : S28), (⟨0, ([] : List Int)⟩ : S31)⟩ : S33)⟩ : S35)] : List (S35))) := ⟨_, rfl⟩
 replace H : ((regain_Decide.f 3 1 y188).bind fun bt194 => ((regain_Decide.f 3 1 (([(⟨1, (⟨1, (⟨0, 1⟩ : S26), (⟨0, 1⟩ : S26), (⟨0, 0, 0, 0, 0, (⟨#[]⟩ : ByteArray)⟩ : S28), (⟨0, ([] : List Int)⟩ : S31)⟩ : S33)⟩ : S35), (⟨3, (⟨0, (⟨0, 0⟩ : S26), (⟨0, 0⟩ : S26), (⟨0, 0, 0, 0, 0, (⟨#[]⟩ : ByteArray)⟩ : S28), (⟨0, ([] : List Int)⟩ : S31)⟩ : S33)⟩ : S35)] : List (S35)))).bind fun bt206 => (if bt194.1 = 4 then (if bt206.1 = 3 then ((regain_Quorum.f 3).bind fun t218 => (some (t218 == 2))) else (some false)) else (some false)))) = some r := by first | (rw [hy188]; with_reducible exact H) | (have H2_ := (Option.bind_some _ _).symm.trans H; rw [hy188]; with_reducible exact H2_) | (have H2_ := (Option.bind_some _ _).symm.trans H; with_reducible exact H2_) | with_reducible exact H | (rw [hy188]; exact H) | exact H
 have Ny188 := Aside0.mk hy188
 clear hy188
 obtain ⟨y191, hy191⟩ : ∃ y_ : List (S35), y_ = (([(⟨1, (⟨1, (⟨0, 1⟩ : S26), (⟨0, 1⟩ : S26), (⟨0, 0, 0, 0, 0, (⟨#[]⟩ : ByteArray)⟩ : S28), (⟨0, ([] : List Int)⟩ : S31)⟩ : S33)⟩ : S35), (⟨3, (⟨0, (⟨0, 0⟩ : S26), (⟨0, 0⟩ : S26), (⟨0, 0, 0, 0, 0, (⟨#[]⟩ : ByteArray)⟩ : S28), (⟨0, ([] : List Int)⟩ : S31)⟩ : S33)⟩ : S35)] : List (S35))) := ⟨_, rfl⟩
 replace H : ((regain_Decide.f 3 1 y188).bind fun bt194 => ((regain_Decide.f 3 1 y191).bind fun bt206 => (if bt194.1 = 4 then (if bt206.1 = 3 then ((regain_Quorum.f 3).bind fun t218 => (some (t218 == 2))) else (some false)) else (some false)))) = some r := by first | (rw [hy191]; with_reducible exact H) | (have H2_ := (Option.bind_some _ _).symm.trans H; rw [hy191]; with_reducible exact H2_) | (have H2_ := (Option.bind_some _ _).symm.trans H; with_reducible exact H2_) | with_reducible exact H | (rw [hy191]; exact H) | exact H
 have Ny191 := Aside0.mk hy191
 clear hy191
 replace H := Option.bind_eq_some_iff.mp H
 obtain ⟨⟨t194, t195, t196, t197, t198, t199, t200, t201, t202⟩, A10, H⟩ := H
 replace H : ((regain_Decide.f 3 1 y191).bind fun bt206 => (if t194 = 4 then (if bt206.1 = 3 then ((regain_Quorum.f 3).bind fun t218 => (some (t218 == 2))) else (some false)) else (some false))) = some r := H
 have A1 := Aside0.mk A10
 clear A10
 replace H := Option.bind_eq_some_iff.mp H
 obtain ⟨⟨t206, t207, t208, t209, t210, t211, t212, t213, t214⟩, A20, H⟩ := H
 replace H : (if t194 = 4 then (if t206 = 3 then ((regain_Quorum.f 3).bind fun t218 => (some (t218 == 2))) else (some false)) else (some false)) = some r := H
 have A2 := Aside0.mk A20
 clear A20
 by_cases c3 : t194 = 4
 ·
  rw [if_pos c3] at H
  have c3b0 : (t194 == 4) = true := beq_iff_eq.mpr c3
  have c3b1 : (t194 != 4) = false := bne_eq_false_iff_eq.mpr c3
  clear c3
  by_cases c4 : t206 = 3
  ·
   rw [if_pos c4] at H
   have c4b0 : (t206 == 3) = true := beq_iff_eq.mpr c4
   have c4b1 : (t206 != 3) = false := bne_eq_false_iff_eq.mpr c4
   clear c4
   replace H := Option.bind_eq_some_iff.mp H
   obtain ⟨t218, A50, H⟩ := H
   replace H : (some (t218 == 2)) = some r := H
   have A5 := Aside0.mk A50
   clear A50
   obtain rfl := Option.some.inj H
   go_enter Try.func8, Try.ntmps8
   go_wp2_with (first | ((with_reducible refine gate_dst (N := 7) rfl ?_); refine Kd.S_lit k35 _ 35 ?hg (N := 7) ?hd (xs := ([(⟨1, (⟨0, (⟨0, 0⟩ : S26), (⟨0, 0⟩ : S26), (⟨0, 0, 0, 0, 0, (⟨#[]⟩ : ByteArray)⟩ : S28), (⟨0, ([] : List Int)⟩ : S31)⟩ : S33)⟩ : S35), (⟨3, (⟨0, (⟨0, 0⟩ : S26), (⟨0, 0⟩ : S26), (⟨0, 0, 0, 0, 0, (⟨#[]⟩ : ByteArray)⟩ : S28), (⟨0, ([] : List Int)⟩ : S31)⟩ : S33)⟩ : S35)] : List (S35))) (inner := [.int .i64 1, .int .i64 0, .int .i64 0, .int .i64 0, .int .i64 0, .int .i64 0, .int .i64 0, .int .i64 0, .int .i64 0, .int .i64 0, .int .i64 0, .string (⟨#[]⟩ : ByteArray), .int .i64 0, .slice none 0 0, .int .i64 3, .int .i64 0, .int .i64 0, .int .i64 0, .int .i64 0, .int .i64 0, .int .i64 0, .int .i64 0, .int .i64 0, .int .i64 0, .int .i64 0, .string (⟨#[]⟩ : ByteArray), .int .i64 0, .slice none 0 0]) (ok := fun _ => True) (okp := fun _ => True) ?hr ?hp (fun _ hk => hk) trivial (Below.refl _ _) (Nat.le_refl _) (by simp) ?_; (case hd => rfl); (case hg => rfl); (case hr => first | (go_simp; done) | (go_simp; rfl)); (case hp => exact (Reps.front (show Kd.M k35 _ _ _ (⟨1, (⟨0, (⟨0, 0⟩ : S26), (⟨0, 0⟩ : S26), (⟨0, 0, 0, 0, 0, (⟨#[]⟩ : ByteArray)⟩ : S28), (⟨0, ([] : List Int)⟩ : S31)⟩ : S33)⟩ : S35) [.int .i64 1, .int .i64 0, .int .i64 0, .int .i64 0, .int .i64 0, .int .i64 0, .int .i64 0, .int .i64 0, .int .i64 0, .int .i64 0, .int .i64 0, .string (⟨#[]⟩ : ByteArray), .int .i64 0, .slice none 0 0] from (k35_mkM _ _ _ (⟨1, (⟨0, (⟨0, 0⟩ : S26), (⟨0, 0⟩ : S26), (⟨0, 0, 0, 0, 0, (⟨#[]⟩ : ByteArray)⟩ : S28), (⟨0, ([] : List Int)⟩ : S31)⟩ : S33)⟩ : S35) (Kd.R_nil _ _ _ _ _))) rfl (Reps.front (show Kd.M k35 _ _ _ (⟨3, (⟨0, (⟨0, 0⟩ : S26), (⟨0, 0⟩ : S26), (⟨0, 0, 0, 0, 0, (⟨#[]⟩ : ByteArray)⟩ : S28), (⟨0, ([] : List Int)⟩ : S31)⟩ : S33)⟩ : S35) [.int .i64 3, .int .i64 0, .int .i64 0, .int .i64 0, .int .i64 0, .int .i64 0, .int .i64 0, .int .i64 0, .int .i64 0, .int .i64 0, .int .i64 0, .string (⟨#[]⟩ : ByteArray), .int .i64 0, .slice none 0 0] from (k35_mkM _ _ _ (⟨3, (⟨0, (⟨0, 0⟩ : S26), (⟨0, 0⟩ : S26), (⟨0, 0, 0, 0, 0, (⟨#[]⟩ : ByteArray)⟩ : S28), (⟨0, ([] : List Int)⟩ : S31)⟩ : S33)⟩ : S35) (Kd.R_nil _ _ _ _ _))) rfl (Reps.none _ _) rfl) rfl)); intro v189 w6 ho7 hb hg_ hnew_; clear hg_ hnew_; (first | rw [← Ny188.out] at ho7 | (simp only [Int.reduceToNat] at ho7; rw [← Ny188.out] at ho7)); have n0_ := Aside0.mk (Kd.S_lower ho7 (below_size (gw_ HB))); have n1_ := Aside0.mk (below_step (gw_ HB) hb); clear HB; have HO190 := n0_; have HB := n1_; clear n0_ n1_; clear hb ho7) | ((with_reducible refine gate_dst (N := 13) rfl ?_); refine Kd.S_lit k35 _ 35 ?hg (N := 13) ?hd (xs := ([(⟨1, (⟨1, (⟨0, 1⟩ : S26), (⟨0, 1⟩ : S26), (⟨0, 0, 0, 0, 0, (⟨#[]⟩ : ByteArray)⟩ : S28), (⟨0, ([] : List Int)⟩ : S31)⟩ : S33)⟩ : S35), (⟨3, (⟨0, (⟨0, 0⟩ : S26), (⟨0, 0⟩ : S26), (⟨0, 0, 0, 0, 0, (⟨#[]⟩ : ByteArray)⟩ : S28), (⟨0, ([] : List Int)⟩ : S31)⟩ : S33)⟩ : S35)] : List (S35))) (inner := [.int .i64 1, .int .i64 1, .int .i64 0, .int .i64 1, .int .i64 0, .int .i64 1, .int .i64 0, .int .i64 0, .int .i64 0, .int .i64 0, .int .i64 0, .string (⟨#[]⟩ : ByteArray), .int .i64 0, .slice none 0 0, .int .i64 3, .int .i64 0, .int .i64 0, .int .i64 0, .int .i64 0, .int .i64 0, .int .i64 0, .int .i64 0, .int .i64 0, .int .i64 0, .int .i64 0, .string (⟨#[]⟩ : ByteArray), .int .i64 0, .slice none 0 0]) (ok := fun _ => True) (okp := fun _ => True) ?hr ?hp (fun _ hk => hk) trivial (Below.refl _ _) (Nat.le_refl _) (by simp) ?_; (case hd => rfl); (case hg => rfl); (case hr => first | (go_simp; done) | (go_simp; rfl)); (case hp => exact (Reps.front (show Kd.M k35 _ _ _ (⟨1, (⟨1, (⟨0, 1⟩ : S26), (⟨0, 1⟩ : S26), (⟨0, 0, 0, 0, 0, (⟨#[]⟩ : ByteArray)⟩ : S28), (⟨0, ([] : List Int)⟩ : S31)⟩ : S33)⟩ : S35) [.int .i64 1, .int .i64 1, .int .i64 0, .int .i64 1, .int .i64 0, .int .i64 1, .int .i64 0, .int .i64 0, .int .i64 0, .int .i64 0, .int .i64 0, .string (⟨#[]⟩ : ByteArray), .int .i64 0, .slice none 0 0] from (k35_mkM _ _ _ (⟨1, (⟨1, (⟨0, 1⟩ : S26), (⟨0, 1⟩ : S26), (⟨0, 0, 0, 0, 0, (⟨#[]⟩ : ByteArray)⟩ : S28), (⟨0, ([] : List Int)⟩ : S31)⟩ : S33)⟩ : S35) (Kd.R_nil _ _ _ _ _))) rfl (Reps.front (show Kd.M k35 _ _ _ (⟨3, (⟨0, (⟨0, 0⟩ : S26), (⟨0, 0⟩ : S26), (⟨0, 0, 0, 0, 0, (⟨#[]⟩ : ByteArray)⟩ : S28), (⟨0, ([] : List Int)⟩ : S31)⟩ : S33)⟩ : S35) [.int .i64 3, .int .i64 0, .int .i64 0, .int .i64 0, .int .i64 0, .int .i64 0, .int .i64 0, .int .i64 0, .int .i64 0, .int .i64 0, .int .i64 0, .string (⟨#[]⟩ : ByteArray), .int .i64 0, .slice none 0 0] from (k35_mkM _ _ _ (⟨3, (⟨0, (⟨0, 0⟩ : S26), (⟨0, 0⟩ : S26), (⟨0, 0, 0, 0, 0, (⟨#[]⟩ : ByteArray)⟩ : S28), (⟨0, ([] : List Int)⟩ : S31)⟩ : S33)⟩ : S35) (Kd.R_nil _ _ _ _ _))) rfl (Reps.none _ _) rfl) rfl)); intro v192 w8 ho9 hb hg_ hnew_; clear hg_ hnew_; (first | rw [← Ny191.out] at ho9 | (simp only [Int.reduceToNat] at ho9; rw [← Ny191.out] at ho9)); have n0_ := Aside0.mk (Kd.S_elder' (by (with_reducible repeat (first | apply Kd.S_alloc | apply Kd.S_drewN | apply Kd.S_drew)); exact HO190.out) (Kd.S_base ho9) hb); have n1_ := Aside0.mk (Kd.S_lower (Kd.S_new' ho9 (Kd.S_lt (by (with_reducible repeat (first | apply Kd.S_alloc | apply Kd.S_drewN | apply Kd.S_drew)); exact HO190.out))) (below_size (gw_ HB))); have n2_ := Aside0.mk (below_step (gw_ HB) hb); clear HO190; clear HB; have HO190 := n0_; have HO193 := n1_; have HB := n2_; clear n0_ n1_ n2_; clear hb ho9; obtain ⟨Ao10, co10, eo10⟩ := Kd.S_slice HO190.out; subst eo10) | ((with_reducible refine gate_callee (f := 10) rfl ?_); refine goesL_ (some 15) rfl rfl Try.func10 (by kernel_rfl) rfl #[.int .i64 3, .int .i64 1, .slice Ao10 y188.length co10] rfl (by (try simp only [List.map_toArray, List.map_cons, List.map_nil]); first | done | rfl | (simp only [List.length_drop, List.length_take]; rfl)) ?_; (with_reducible refine (regain_Decide.calls 3 1 _ _ y188 t194 t195 t196 t197 t198 t199 t200 t201 t202 _ ?side1 ?side2 A1.out).mono ?_); (case side1 => repeat (first | exact (Kd.S_reads' HO190.out).2.2 | (with_reducible refine Kd.C_alloc ?_ _) | (with_reducible refine Kd.C_drewN ?_ _) | (with_reducible refine Kd.C_drew ?_))); (case side2 => exact (Kd.S_reads' HO190.out).2.1); rintro e w11 ⟨v203, rfl, ho0, hb⟩; refine ⟨_, rfl, ?_⟩; have n0_ := Aside0.mk (Kd.S_elder' (by (with_reducible repeat (first | apply Kd.S_alloc | apply Kd.S_drewN | apply Kd.S_drew)); exact HO190.out) (Kd.R_base ho0) hb); have n1_ := Aside0.mk (Kd.S_elder' (by (with_reducible repeat (first | apply Kd.S_alloc | apply Kd.S_drewN | apply Kd.S_drew)); exact HO193.out) (Kd.R_base ho0) hb); have n2_ := Aside0.mk (Kd.R_lower ho0 (below_size (gw_ HB))); have n3_ := Aside0.mk (below_step (gw_ HB) hb); clear HO190; clear HO193; clear HB; have HO190 := n0_; have HO193 := n1_; have HO204 := n2_; have HB := n3_; clear n0_ n1_ n2_ n3_; (try clear hb); (try clear hb2); (try clear hk); (try clear hi); (try clear ho0)) | ((with_reducible refine gate_dst (N := 3) rfl ?_); refine box_event ?hg (N := 3) ?hd (cs := #[.int .i64 0, .int .i64 0, .int .i64 0, .int .i64 0, .int .i64 0, .int .i64 0, .string (⟨#[]⟩ : ByteArray), .int .i64 0, .slice none 0 0]) (t := 37) ?hr ?_; (case hd => rfl); (case hg => rfl); (case hr => first | (go_simp; done) | (go_simp; rfl)); intro gb205 hg w12 hbox hb; have n0_ := Aside0.mk (Kd.S_below (by (with_reducible repeat (first | apply Kd.S_alloc | apply Kd.S_drewN | apply Kd.S_drew)); exact HO190.out) hb); have n1_ := Aside0.mk (Kd.S_below (by (with_reducible repeat (first | apply Kd.S_alloc | apply Kd.S_drewN | apply Kd.S_drew)); exact HO193.out) hb); have n2_ := Aside0.mk (Kd.R_below (Kd.rk HO204) hb); have s_ := step_size_ (gw_ HB) hb hg; have n3_ := Aside0.mk s_.1; have n4_ := Aside0.mk (hbox); have n5_ := Aside0.mk s_.2; clear s_; have n6_ := n5_; clear HO190; clear HO193; clear HO204; clear HB; have HO190 := n0_; have HO193 := n1_; have HO204 := n2_; have HB := n3_; have BK205 := n4_; have GW205 := n5_; have GE205 := n6_; clear n0_ n1_ n2_ n3_ n4_ n5_ n6_; clear hb hbox hg; obtain ⟨hcz13_0, hcz13_1, hcz13_2, hcz13_3, hcz13_4, hcz13_5, hcz13_6, hcz13_7, hcz13_8⟩ := blk_cells9 BK205.out; obtain ⟨hfz13_0, hfz13_1, hfz13_2, hfz13_3, hfz13_4, hfz13_5, hfz13_6, hfz13_7, hfz13_8⟩ := blk_frozens9 BK205.out; obtain ⟨Ao14, co14, eo14⟩ := Kd.R_slice HO204.out; subst eo14; obtain ⟨Ao15, co15, eo15⟩ := Kd.S_slice HO193.out; subst eo15) | ((with_reducible refine gate_callee (f := 10) rfl ?_); refine goesL_ (some 17) rfl rfl Try.func10 (by kernel_rfl) rfl #[.int .i64 3, .int .i64 1, .slice Ao15 y191.length co15] rfl (by (try simp only [List.map_toArray, List.map_cons, List.map_nil]); first | done | rfl | (simp only [List.length_drop, List.length_take]; rfl)) ?_; (with_reducible refine (regain_Decide.calls 3 1 _ _ y191 t206 t207 t208 t209 t210 t211 t212 t213 t214 _ ?side1 ?side2 A2.out).mono ?_); (case side1 => refine (Kd.S_reads' (e := 35) (base := w.heap.size) (ok := fun k_ => ((True ∧ some k_ ≠ (.slice Ao10 y188.length co10 : Value).ownBlock) ∧ some k_ ≠ (.slice Ao14 t202.length co14 : Value).ownBlock)) (n := y191.length) (c := co15) ?_).2.2; exact (by (with_reducible repeat (first | apply Kd.S_alloc | apply Kd.S_drewN | apply Kd.S_drew)); exact (Kd.S_mono (Kd.S_far (p := ⟨gb205, 8, none⟩) (Kd.S_far (p := ⟨gb205, 7, none⟩) (Kd.S_far (p := ⟨gb205, 6, none⟩) (Kd.S_far (p := ⟨gb205, 5, none⟩) (Kd.S_far (p := ⟨gb205, 4, none⟩) (Kd.S_far (p := ⟨gb205, 3, none⟩) (Kd.S_far (p := ⟨gb205, 2, none⟩) (Kd.S_far (p := ⟨gb205, 1, none⟩) (Kd.S_far (p := ⟨gb205, 0, none⟩) (Kd.S_types HO193.out BK205.out (by decide)) (fun _ hk => hk.2) (.int .i64 t194)) (fun _ hk => hk.2) (.int .i64 t195)) (fun _ hk => hk.2) (.int .i64 t196)) (fun _ hk => hk.2) (.int .i64 t197)) (fun _ hk => hk.2) (.int .i64 t198)) (fun _ hk => hk.2) (.int .i64 t199)) (fun _ hk => hk.2) (.string t200)) (fun _ hk => hk.2) (.int .i64 t201)) (fun _ hk => hk.2) (.slice Ao14 t202.length co14)) (fun _ h_ => h_.1)))); (case side2 => exact (Kd.S_reads' HO193.out).2.1); rintro e w16 ⟨v215, rfl, ho0, hb⟩; refine ⟨_, rfl, ?_⟩; have n0_ := Aside0.mk (Kd.S_elder' (by (with_reducible repeat (first | apply Kd.S_alloc | apply Kd.S_drewN | apply Kd.S_drew)); exact (Kd.S_mono (Kd.S_far (p := ⟨gb205, 8, none⟩) (Kd.S_far (p := ⟨gb205, 7, none⟩) (Kd.S_far (p := ⟨gb205, 6, none⟩) (Kd.S_far (p := ⟨gb205, 5, none⟩) (Kd.S_far (p := ⟨gb205, 4, none⟩) (Kd.S_far (p := ⟨gb205, 3, none⟩) (Kd.S_far (p := ⟨gb205, 2, none⟩) (Kd.S_far (p := ⟨gb205, 1, none⟩) (Kd.S_far (p := ⟨gb205, 0, none⟩) (Kd.S_types HO190.out BK205.out (by decide)) (fun _ hk => hk.2) (.int .i64 t194)) (fun _ hk => hk.2) (.int .i64 t195)) (fun _ hk => hk.2) (.int .i64 t196)) (fun _ hk => hk.2) (.int .i64 t197)) (fun _ hk => hk.2) (.int .i64 t198)) (fun _ hk => hk.2) (.int .i64 t199)) (fun _ hk => hk.2) (.string t200)) (fun _ hk => hk.2) (.int .i64 t201)) (fun _ hk => hk.2) (.slice Ao14 t202.length co14)) (fun _ h_ => h_.1))) (Kd.R_base ho0) hb); have n1_ := Aside0.mk (Kd.S_elder' (by (with_reducible repeat (first | apply Kd.S_alloc | apply Kd.S_drewN | apply Kd.S_drew)); exact (Kd.S_mono (Kd.S_far (p := ⟨gb205, 8, none⟩) (Kd.S_far (p := ⟨gb205, 7, none⟩) (Kd.S_far (p := ⟨gb205, 6, none⟩) (Kd.S_far (p := ⟨gb205, 5, none⟩) (Kd.S_far (p := ⟨gb205, 4, none⟩) (Kd.S_far (p := ⟨gb205, 3, none⟩) (Kd.S_far (p := ⟨gb205, 2, none⟩) (Kd.S_far (p := ⟨gb205, 1, none⟩) (Kd.S_far (p := ⟨gb205, 0, none⟩) (Kd.S_types HO193.out BK205.out (by decide)) (fun _ hk => hk.2) (.int .i64 t194)) (fun _ hk => hk.2) (.int .i64 t195)) (fun _ hk => hk.2) (.int .i64 t196)) (fun _ hk => hk.2) (.int .i64 t197)) (fun _ hk => hk.2) (.int .i64 t198)) (fun _ hk => hk.2) (.int .i64 t199)) (fun _ hk => hk.2) (.string t200)) (fun _ hk => hk.2) (.int .i64 t201)) (fun _ hk => hk.2) (.slice Ao14 t202.length co14)) (fun _ h_ => h_.1))) (Kd.R_base ho0) hb); have n2_ := Aside0.mk (Kd.R_elder' (by (with_reducible repeat (first | apply Kd.R_alloc | apply Kd.R_drewN | apply Kd.R_drew)); exact (Kd.R_mono (Kd.R_far9 (g := gb205) (Kd.R_types HO204.out BK205.out (by decide)) (fun _ hk => hk.2)) (fun _ h_ => h_.1))) (Kd.R_base ho0) hb); have n3_ := Aside0.mk (Kd.R_lower (Kd.R_new' ho0 (Kd.R_lt (by (with_reducible repeat (first | apply Kd.R_alloc | apply Kd.R_drewN | apply Kd.R_drew)); exact (Kd.R_mono (Kd.R_far9 (g := gb205) (Kd.R_types HO204.out BK205.out (by decide)) (fun _ hk => hk.2)) (fun _ h_ => h_.1))))) (below_size (gw_ HB))); have n4_ := Aside0.mk (blk_below (g := gb205) (o := .cells #[.int .i64 t194, .int .i64 t195, .int .i64 t196, .int .i64 t197, .int .i64 t198, .int .i64 t199, .string t200, .int .i64 t201, .slice Ao14 t202.length co14] 37 (0, 0)) (by (with_reducible repeat (first | refine blk_drewN ?_ _ | refine blk_drew ?_ | refine blk_alloc ?_ _)); refine blk_put9 (cs := #[.int .i64 0, .int .i64 0, .int .i64 0, .int .i64 0, .int .i64 0, .int .i64 0, .string (⟨#[]⟩ : ByteArray), .int .i64 0, .slice none 0 0]) ?_ rfl; (with_reducible repeat (first | refine blk_drewN ?_ _ | refine blk_drew ?_ | refine blk_alloc ?_ _)); exact BK205.out) hb); have n5_ := Aside0.mk (below_step (gw_ HB) hb); clear HO190; clear HO193; clear HO204; clear BK205; clear HB; have HO190 := n0_; have HO193 := n1_; have HO204 := n2_; have HO216 := n3_; have BK205 := n4_; have HB := n5_; clear n0_ n1_ n2_ n3_ n4_ n5_; (try clear hb); (try clear hb2); (try clear hk); (try clear hi); (try clear ho0)) | ((with_reducible refine gate_dst (N := 4) rfl ?_); refine box_event ?hg (N := 4) ?hd (cs := #[.int .i64 0, .int .i64 0, .int .i64 0, .int .i64 0, .int .i64 0, .int .i64 0, .string (⟨#[]⟩ : ByteArray), .int .i64 0, .slice none 0 0]) (t := 37) ?hr ?_; (case hd => rfl); (case hg => rfl); (case hr => first | (go_simp; done) | (go_simp; rfl)); intro gb217 hg w17 hbox hb; have n0_ := Aside0.mk (Kd.S_below (by (with_reducible repeat (first | apply Kd.S_alloc | apply Kd.S_drewN | apply Kd.S_drew)); exact HO190.out) hb); have n1_ := Aside0.mk (Kd.S_below (by (with_reducible repeat (first | apply Kd.S_alloc | apply Kd.S_drewN | apply Kd.S_drew)); exact HO193.out) hb); have n2_ := Aside0.mk (Kd.R_below (Kd.rk HO204) hb); have n3_ := Aside0.mk (Kd.R_below (Kd.rk HO216) hb); have n4_ := Aside0.mk (blk_below (g := gb205) (bk BK205) hb); have s_ := step_size_ (gw_ HB) hb hg; have n5_ := Aside0.mk s_.1; have n6_ := Aside0.mk (hbox); have n7_ := Aside0.mk s_.2; clear s_; have n8_ := n7_; have l_ := blk_lt_ (g := gb205) hg (bk BK205); have n9_ := Aside0.mk (Nat.ne_of_lt l_); have n10_ := Aside0.mk (Nat.ne_of_gt l_); clear l_; clear HO190; clear HO193; clear HO204; clear HO216; clear BK205; clear HB; have HO190 := n0_; have HO193 := n1_; have HO204 := n2_; have HO216 := n3_; have BK205 := n4_; have HB := n5_; have BK217 := n6_; have GW217 := n7_; have GE217 := n8_; have NB205_217 := n9_; have NB217_205 := n10_; clear n0_ n1_ n2_ n3_ n4_ n5_ n6_ n7_ n8_ n9_ n10_; clear hb hbox hg; have hnb18 := NB217_205.out; have hnc18 := NB205_217.out; obtain ⟨hcz19_0, hcz19_1, hcz19_2, hcz19_3, hcz19_4, hcz19_5, hcz19_6, hcz19_7, hcz19_8⟩ := blk_cells9 BK217.out; obtain ⟨hfz19_0, hfz19_1, hfz19_2, hfz19_3, hfz19_4, hfz19_5, hfz19_6, hfz19_7, hfz19_8⟩ := blk_frozens9 BK217.out; obtain ⟨Ao20, co20, eo20⟩ := Kd.R_slice HO216.out; subst eo20; obtain ⟨hcz21_0, hcz21_1, hcz21_2, hcz21_3, hcz21_4, hcz21_5, hcz21_6, hcz21_7, hcz21_8⟩ := blk_cells9 BK205.out; obtain ⟨hfz21_0, hfz21_1, hfz21_2, hfz21_3, hfz21_4, hfz21_5, hfz21_6, hfz21_7, hfz21_8⟩ := blk_frozens9 BK205.out) | (go_at_call 11; (with_reducible refine (regain_Quorum.calls 3 t218 _ A5.out).mono ?_); rintro e w22 ⟨rfl, hb⟩; have n0_ := Aside0.mk (Kd.S_below (by (with_reducible repeat (first | apply Kd.S_alloc | apply Kd.S_drewN | apply Kd.S_drew)); exact (Kd.S_mono (Kd.S_far (p := ⟨gb217, 8, none⟩) (Kd.S_far (p := ⟨gb217, 7, none⟩) (Kd.S_far (p := ⟨gb217, 6, none⟩) (Kd.S_far (p := ⟨gb217, 5, none⟩) (Kd.S_far (p := ⟨gb217, 4, none⟩) (Kd.S_far (p := ⟨gb217, 3, none⟩) (Kd.S_far (p := ⟨gb217, 2, none⟩) (Kd.S_far (p := ⟨gb217, 1, none⟩) (Kd.S_far (p := ⟨gb217, 0, none⟩) (Kd.S_types HO190.out BK217.out (by decide)) (fun _ hk => hk.2) (.int .i64 t206)) (fun _ hk => hk.2) (.int .i64 t207)) (fun _ hk => hk.2) (.int .i64 t208)) (fun _ hk => hk.2) (.int .i64 t209)) (fun _ hk => hk.2) (.int .i64 t210)) (fun _ hk => hk.2) (.int .i64 t211)) (fun _ hk => hk.2) (.string t212)) (fun _ hk => hk.2) (.int .i64 t213)) (fun _ hk => hk.2) (.slice Ao20 t214.length co20)) (fun _ h_ => h_.1))) hb); have n1_ := Aside0.mk (Kd.S_below (by (with_reducible repeat (first | apply Kd.S_alloc | apply Kd.S_drewN | apply Kd.S_drew)); exact (Kd.S_mono (Kd.S_far (p := ⟨gb217, 8, none⟩) (Kd.S_far (p := ⟨gb217, 7, none⟩) (Kd.S_far (p := ⟨gb217, 6, none⟩) (Kd.S_far (p := ⟨gb217, 5, none⟩) (Kd.S_far (p := ⟨gb217, 4, none⟩) (Kd.S_far (p := ⟨gb217, 3, none⟩) (Kd.S_far (p := ⟨gb217, 2, none⟩) (Kd.S_far (p := ⟨gb217, 1, none⟩) (Kd.S_far (p := ⟨gb217, 0, none⟩) (Kd.S_types HO193.out BK217.out (by decide)) (fun _ hk => hk.2) (.int .i64 t206)) (fun _ hk => hk.2) (.int .i64 t207)) (fun _ hk => hk.2) (.int .i64 t208)) (fun _ hk => hk.2) (.int .i64 t209)) (fun _ hk => hk.2) (.int .i64 t210)) (fun _ hk => hk.2) (.int .i64 t211)) (fun _ hk => hk.2) (.string t212)) (fun _ hk => hk.2) (.int .i64 t213)) (fun _ hk => hk.2) (.slice Ao20 t214.length co20)) (fun _ h_ => h_.1))) hb); have n2_ := Aside0.mk (Kd.R_below (by (with_reducible repeat (first | apply Kd.R_alloc | apply Kd.R_drewN | apply Kd.R_drew)); exact (Kd.R_mono (Kd.R_far9 (g := gb217) (Kd.R_types HO204.out BK217.out (by decide)) (fun _ hk => hk.2)) (fun _ h_ => h_.1))) hb); have n3_ := Aside0.mk (Kd.R_below (by (with_reducible repeat (first | apply Kd.R_alloc | apply Kd.R_drewN | apply Kd.R_drew)); exact (Kd.R_mono (Kd.R_far9 (g := gb217) (Kd.R_types HO216.out BK217.out (by decide)) (fun _ hk => hk.2)) (fun _ h_ => h_.1))) hb); have n4_ := Aside0.mk (blk_below (g := gb205) (o := .cells #[.int .i64 t194, .int .i64 t195, .int .i64 t196, .int .i64 t197, .int .i64 t198, .int .i64 t199, .string t200, .int .i64 t201, .slice Ao14 t202.length co14] 37 (0, 0)) (by (with_reducible repeat (first | refine blk_drewN ?_ _ | refine blk_drew ?_ | refine blk_alloc ?_ _)); (iterate 9 (refine blk_far ?_ NB205_217.out _)); (with_reducible repeat (first | refine blk_drewN ?_ _ | refine blk_drew ?_ | refine blk_alloc ?_ _)); exact BK205.out) hb); have n5_ := Aside0.mk (blk_below (g := gb217) (o := .cells #[.int .i64 t206, .int .i64 t207, .int .i64 t208, .int .i64 t209, .int .i64 t210, .int .i64 t211, .string t212, .int .i64 t213, .slice Ao20 t214.length co20] 37 (0, 0)) (by (with_reducible repeat (first | refine blk_drewN ?_ _ | refine blk_drew ?_ | refine blk_alloc ?_ _)); refine blk_put9 (cs := #[.int .i64 0, .int .i64 0, .int .i64 0, .int .i64 0, .int .i64 0, .int .i64 0, .string (⟨#[]⟩ : ByteArray), .int .i64 0, .slice none 0 0]) ?_ rfl; (with_reducible repeat (first | refine blk_drewN ?_ _ | refine blk_drew ?_ | refine blk_alloc ?_ _)); exact BK217.out) hb); have n6_ := Aside0.mk (below_step (gw_ HB) hb); clear HO190; clear HO193; clear HO204; clear HO216; clear BK205; clear BK217; clear HB; have HO190 := n0_; have HO193 := n1_; have HO204 := n2_; have HO216 := n3_; have BK205 := n4_; have BK217 := n5_; have HB := n6_; clear n0_ n1_ n2_ n3_ n4_ n5_ n6_; (try clear hb); (try clear hb2); (try clear hk); (try clear hi)))
   go_ret
   exact ⟨by first | rfl | (simp [errW_none, errW_some] <;> rfl) | (simp [*, errW_none, errW_some] <;> rfl), gw_ HB⟩
  ·
   rw [if_neg c4] at H
   have c4b0 : (t206 == 3) = false := beq_eq_false_iff_ne.mpr c4
   have c4b1 : (t206 != 3) = true := bne_iff_ne.mpr c4
   obtain rfl := Option.some.inj H
   go_enter Try.func8, Try.ntmps8
   go_wp2_with (first | ((with_reducible refine gate_dst (N := 7) rfl ?_); refine Kd.S_lit k35 _ 35 ?hg (N := 7) ?hd (xs := ([(⟨1, (⟨0, (⟨0, 0⟩ : S26), (⟨0, 0⟩ : S26), (⟨0, 0, 0, 0, 0, (⟨#[]⟩ : ByteArray)⟩ : S28), (⟨0, ([] : List Int)⟩ : S31)⟩ : S33)⟩ : S35), (⟨3, (⟨0, (⟨0, 0⟩ : S26), (⟨0, 0⟩ : S26), (⟨0, 0, 0, 0, 0, (⟨#[]⟩ : ByteArray)⟩ : S28), (⟨0, ([] : List Int)⟩ : S31)⟩ : S33)⟩ : S35)] : List (S35))) (inner := [.int .i64 1, .int .i64 0, .int .i64 0, .int .i64 0, .int .i64 0, .int .i64 0, .int .i64 0, .int .i64 0, .int .i64 0, .int .i64 0, .int .i64 0, .string (⟨#[]⟩ : ByteArray), .int .i64 0, .slice none 0 0, .int .i64 3, .int .i64 0, .int .i64 0, .int .i64 0, .int .i64 0, .int .i64 0, .int .i64 0, .int .i64 0, .int .i64 0, .int .i64 0, .int .i64 0, .string (⟨#[]⟩ : ByteArray), .int .i64 0, .slice none 0 0]) (ok := fun _ => True) (okp := fun _ => True) ?hr ?hp (fun _ hk => hk) trivial (Below.refl _ _) (Nat.le_refl _) (by simp) ?_; (case hd => rfl); (case hg => rfl); (case hr => first | (go_simp; done) | (go_simp; rfl)); (case hp => exact (Reps.front (show Kd.M k35 _ _ _ (⟨1, (⟨0, (⟨0, 0⟩ : S26), (⟨0, 0⟩ : S26), (⟨0, 0, 0, 0, 0, (⟨#[]⟩ : ByteArray)⟩ : S28), (⟨0, ([] : List Int)⟩ : S31)⟩ : S33)⟩ : S35) [.int .i64 1, .int .i64 0, .int .i64 0, .int .i64 0, .int .i64 0, .int .i64 0, .int .i64 0, .int .i64 0, .int .i64 0, .int .i64 0, .int .i64 0, .string (⟨#[]⟩ : ByteArray), .int .i64 0, .slice none 0 0] from (k35_mkM _ _ _ (⟨1, (⟨0, (⟨0, 0⟩ : S26), (⟨0, 0⟩ : S26), (⟨0, 0, 0, 0, 0, (⟨#[]⟩ : ByteArray)⟩ : S28), (⟨0, ([] : List Int)⟩ : S31)⟩ : S33)⟩ : S35) (Kd.R_nil _ _ _ _ _))) rfl (Reps.front (show Kd.M k35 _ _ _ (⟨3, (⟨0, (⟨0, 0⟩ : S26), (⟨0, 0⟩ : S26), (⟨0, 0, 0, 0, 0, (⟨#[]⟩ : ByteArray)⟩ : S28), (⟨0, ([] : List Int)⟩ : S31)⟩ : S33)⟩ : S35) [.int .i64 3, .int .i64 0, .int .i64 0, .int .i64 0, .int .i64 0, .int .i64 0, .int .i64 0, .int .i64 0, .int .i64 0, .int .i64 0, .int .i64 0, .string (⟨#[]⟩ : ByteArray), .int .i64 0, .slice none 0 0] from (k35_mkM _ _ _ (⟨3, (⟨0, (⟨0, 0⟩ : S26), (⟨0, 0⟩ : S26), (⟨0, 0, 0, 0, 0, (⟨#[]⟩ : ByteArray)⟩ : S28), (⟨0, ([] : List Int)⟩ : S31)⟩ : S33)⟩ : S35) (Kd.R_nil _ _ _ _ _))) rfl (Reps.none _ _) rfl) rfl)); intro v189 w23 ho24 hb hg_ hnew_; clear hg_ hnew_; (first | rw [← Ny188.out] at ho24 | (simp only [Int.reduceToNat] at ho24; rw [← Ny188.out] at ho24)); have n0_ := Aside0.mk (Kd.S_lower ho24 (below_size (gw_ HB))); have n1_ := Aside0.mk (below_step (gw_ HB) hb); clear HB; have HO190 := n0_; have HB := n1_; clear n0_ n1_; clear hb ho24) | ((with_reducible refine gate_dst (N := 13) rfl ?_); refine Kd.S_lit k35 _ 35 ?hg (N := 13) ?hd (xs := ([(⟨1, (⟨1, (⟨0, 1⟩ : S26), (⟨0, 1⟩ : S26), (⟨0, 0, 0, 0, 0, (⟨#[]⟩ : ByteArray)⟩ : S28), (⟨0, ([] : List Int)⟩ : S31)⟩ : S33)⟩ : S35), (⟨3, (⟨0, (⟨0, 0⟩ : S26), (⟨0, 0⟩ : S26), (⟨0, 0, 0, 0, 0, (⟨#[]⟩ : ByteArray)⟩ : S28), (⟨0, ([] : List Int)⟩ : S31)⟩ : S33)⟩ : S35)] : List (S35))) (inner := [.int .i64 1, .int .i64 1, .int .i64 0, .int .i64 1, .int .i64 0, .int .i64 1, .int .i64 0, .int .i64 0, .int .i64 0, .int .i64 0, .int .i64 0, .string (⟨#[]⟩ : ByteArray), .int .i64 0, .slice none 0 0, .int .i64 3, .int .i64 0, .int .i64 0, .int .i64 0, .int .i64 0, .int .i64 0, .int .i64 0, .int .i64 0, .int .i64 0, .int .i64 0, .int .i64 0, .string (⟨#[]⟩ : ByteArray), .int .i64 0, .slice none 0 0]) (ok := fun _ => True) (okp := fun _ => True) ?hr ?hp (fun _ hk => hk) trivial (Below.refl _ _) (Nat.le_refl _) (by simp) ?_; (case hd => rfl); (case hg => rfl); (case hr => first | (go_simp; done) | (go_simp; rfl)); (case hp => exact (Reps.front (show Kd.M k35 _ _ _ (⟨1, (⟨1, (⟨0, 1⟩ : S26), (⟨0, 1⟩ : S26), (⟨0, 0, 0, 0, 0, (⟨#[]⟩ : ByteArray)⟩ : S28), (⟨0, ([] : List Int)⟩ : S31)⟩ : S33)⟩ : S35) [.int .i64 1, .int .i64 1, .int .i64 0, .int .i64 1, .int .i64 0, .int .i64 1, .int .i64 0, .int .i64 0, .int .i64 0, .int .i64 0, .int .i64 0, .string (⟨#[]⟩ : ByteArray), .int .i64 0, .slice none 0 0] from (k35_mkM _ _ _ (⟨1, (⟨1, (⟨0, 1⟩ : S26), (⟨0, 1⟩ : S26), (⟨0, 0, 0, 0, 0, (⟨#[]⟩ : ByteArray)⟩ : S28), (⟨0, ([] : List Int)⟩ : S31)⟩ : S33)⟩ : S35) (Kd.R_nil _ _ _ _ _))) rfl (Reps.front (show Kd.M k35 _ _ _ (⟨3, (⟨0, (⟨0, 0⟩ : S26), (⟨0, 0⟩ : S26), (⟨0, 0, 0, 0, 0, (⟨#[]⟩ : ByteArray)⟩ : S28), (⟨0, ([] : List Int)⟩ : S31)⟩ : S33)⟩ : S35) [.int .i64 3, .int .i64 0, .int .i64 0, .int .i64 0, .int .i64 0, .int .i64 0, .int .i64 0, .int .i64 0, .int .i64 0, .int .i64 0, .int .i64 0, .string (⟨#[]⟩ : ByteArray), .int .i64 0, .slice none 0 0] from (k35_mkM _ _ _ (⟨3, (⟨0, (⟨0, 0⟩ : S26), (⟨0, 0⟩ : S26), (⟨0, 0, 0, 0, 0, (⟨#[]⟩ : ByteArray)⟩ : S28), (⟨0, ([] : List Int)⟩ : S31)⟩ : S33)⟩ : S35) (Kd.R_nil _ _ _ _ _))) rfl (Reps.none _ _) rfl) rfl)); intro v192 w25 ho26 hb hg_ hnew_; clear hg_ hnew_; (first | rw [← Ny191.out] at ho26 | (simp only [Int.reduceToNat] at ho26; rw [← Ny191.out] at ho26)); have n0_ := Aside0.mk (Kd.S_elder' (by (with_reducible repeat (first | apply Kd.S_alloc | apply Kd.S_drewN | apply Kd.S_drew)); exact HO190.out) (Kd.S_base ho26) hb); have n1_ := Aside0.mk (Kd.S_lower (Kd.S_new' ho26 (Kd.S_lt (by (with_reducible repeat (first | apply Kd.S_alloc | apply Kd.S_drewN | apply Kd.S_drew)); exact HO190.out))) (below_size (gw_ HB))); have n2_ := Aside0.mk (below_step (gw_ HB) hb); clear HO190; clear HB; have HO190 := n0_; have HO193 := n1_; have HB := n2_; clear n0_ n1_ n2_; clear hb ho26; obtain ⟨Ao27, co27, eo27⟩ := Kd.S_slice HO190.out; subst eo27) | ((with_reducible refine gate_callee (f := 10) rfl ?_); refine goesL_ (some 15) rfl rfl Try.func10 (by kernel_rfl) rfl #[.int .i64 3, .int .i64 1, .slice Ao27 y188.length co27] rfl (by (try simp only [List.map_toArray, List.map_cons, List.map_nil]); first | done | rfl | (simp only [List.length_drop, List.length_take]; rfl)) ?_; (with_reducible refine (regain_Decide.calls 3 1 _ _ y188 t194 t195 t196 t197 t198 t199 t200 t201 t202 _ ?side1 ?side2 A1.out).mono ?_); (case side1 => repeat (first | exact (Kd.S_reads' HO190.out).2.2 | (with_reducible refine Kd.C_alloc ?_ _) | (with_reducible refine Kd.C_drewN ?_ _) | (with_reducible refine Kd.C_drew ?_))); (case side2 => exact (Kd.S_reads' HO190.out).2.1); rintro e w28 ⟨v203, rfl, ho0, hb⟩; refine ⟨_, rfl, ?_⟩; have n0_ := Aside0.mk (Kd.S_elder' (by (with_reducible repeat (first | apply Kd.S_alloc | apply Kd.S_drewN | apply Kd.S_drew)); exact HO190.out) (Kd.R_base ho0) hb); have n1_ := Aside0.mk (Kd.S_elder' (by (with_reducible repeat (first | apply Kd.S_alloc | apply Kd.S_drewN | apply Kd.S_drew)); exact HO193.out) (Kd.R_base ho0) hb); have n2_ := Aside0.mk (Kd.R_lower ho0 (below_size (gw_ HB))); have n3_ := Aside0.mk (below_step (gw_ HB) hb); clear HO190; clear HO193; clear HB; have HO190 := n0_; have HO193 := n1_; have HO204 := n2_; have HB := n3_; clear n0_ n1_ n2_ n3_; (try clear hb); (try clear hb2); (try clear hk); (try clear hi); (try clear ho0)) | ((with_reducible refine gate_dst (N := 3) rfl ?_); refine box_event ?hg (N := 3) ?hd (cs := #[.int .i64 0, .int .i64 0, .int .i64 0, .int .i64 0, .int .i64 0, .int .i64 0, .string (⟨#[]⟩ : ByteArray), .int .i64 0, .slice none 0 0]) (t := 37) ?hr ?_; (case hd => rfl); (case hg => rfl); (case hr => first | (go_simp; done) | (go_simp; rfl)); intro gb205 hg w29 hbox hb; have n0_ := Aside0.mk (Kd.S_below (by (with_reducible repeat (first | apply Kd.S_alloc | apply Kd.S_drewN | apply Kd.S_drew)); exact HO190.out) hb); have n1_ := Aside0.mk (Kd.S_below (by (with_reducible repeat (first | apply Kd.S_alloc | apply Kd.S_drewN | apply Kd.S_drew)); exact HO193.out) hb); have n2_ := Aside0.mk (Kd.R_below (Kd.rk HO204) hb); have s_ := step_size_ (gw_ HB) hb hg; have n3_ := Aside0.mk s_.1; have n4_ := Aside0.mk (hbox); have n5_ := Aside0.mk s_.2; clear s_; have n6_ := n5_; clear HO190; clear HO193; clear HO204; clear HB; have HO190 := n0_; have HO193 := n1_; have HO204 := n2_; have HB := n3_; have BK205 := n4_; have GW205 := n5_; have GE205 := n6_; clear n0_ n1_ n2_ n3_ n4_ n5_ n6_; clear hb hbox hg; obtain ⟨hcz30_0, hcz30_1, hcz30_2, hcz30_3, hcz30_4, hcz30_5, hcz30_6, hcz30_7, hcz30_8⟩ := blk_cells9 BK205.out; obtain ⟨hfz30_0, hfz30_1, hfz30_2, hfz30_3, hfz30_4, hfz30_5, hfz30_6, hfz30_7, hfz30_8⟩ := blk_frozens9 BK205.out; obtain ⟨Ao31, co31, eo31⟩ := Kd.R_slice HO204.out; subst eo31; obtain ⟨Ao32, co32, eo32⟩ := Kd.S_slice HO193.out; subst eo32) | ((with_reducible refine gate_callee (f := 10) rfl ?_); refine goesL_ (some 17) rfl rfl Try.func10 (by kernel_rfl) rfl #[.int .i64 3, .int .i64 1, .slice Ao32 y191.length co32] rfl (by (try simp only [List.map_toArray, List.map_cons, List.map_nil]); first | done | rfl | (simp only [List.length_drop, List.length_take]; rfl)) ?_; (with_reducible refine (regain_Decide.calls 3 1 _ _ y191 t206 t207 t208 t209 t210 t211 t212 t213 t214 _ ?side1 ?side2 A2.out).mono ?_); (case side1 => refine (Kd.S_reads' (e := 35) (base := w.heap.size) (ok := fun k_ => ((True ∧ some k_ ≠ (.slice Ao27 y188.length co27 : Value).ownBlock) ∧ some k_ ≠ (.slice Ao31 t202.length co31 : Value).ownBlock)) (n := y191.length) (c := co32) ?_).2.2; exact (by (with_reducible repeat (first | apply Kd.S_alloc | apply Kd.S_drewN | apply Kd.S_drew)); exact (Kd.S_mono (Kd.S_far (p := ⟨gb205, 8, none⟩) (Kd.S_far (p := ⟨gb205, 7, none⟩) (Kd.S_far (p := ⟨gb205, 6, none⟩) (Kd.S_far (p := ⟨gb205, 5, none⟩) (Kd.S_far (p := ⟨gb205, 4, none⟩) (Kd.S_far (p := ⟨gb205, 3, none⟩) (Kd.S_far (p := ⟨gb205, 2, none⟩) (Kd.S_far (p := ⟨gb205, 1, none⟩) (Kd.S_far (p := ⟨gb205, 0, none⟩) (Kd.S_types HO193.out BK205.out (by decide)) (fun _ hk => hk.2) (.int .i64 t194)) (fun _ hk => hk.2) (.int .i64 t195)) (fun _ hk => hk.2) (.int .i64 t196)) (fun _ hk => hk.2) (.int .i64 t197)) (fun _ hk => hk.2) (.int .i64 t198)) (fun _ hk => hk.2) (.int .i64 t199)) (fun _ hk => hk.2) (.string t200)) (fun _ hk => hk.2) (.int .i64 t201)) (fun _ hk => hk.2) (.slice Ao31 t202.length co31)) (fun _ h_ => h_.1)))); (case side2 => exact (Kd.S_reads' HO193.out).2.1); rintro e w33 ⟨v215, rfl, ho0, hb⟩; refine ⟨_, rfl, ?_⟩; have n0_ := Aside0.mk (Kd.S_elder' (by (with_reducible repeat (first | apply Kd.S_alloc | apply Kd.S_drewN | apply Kd.S_drew)); exact (Kd.S_mono (Kd.S_far (p := ⟨gb205, 8, none⟩) (Kd.S_far (p := ⟨gb205, 7, none⟩) (Kd.S_far (p := ⟨gb205, 6, none⟩) (Kd.S_far (p := ⟨gb205, 5, none⟩) (Kd.S_far (p := ⟨gb205, 4, none⟩) (Kd.S_far (p := ⟨gb205, 3, none⟩) (Kd.S_far (p := ⟨gb205, 2, none⟩) (Kd.S_far (p := ⟨gb205, 1, none⟩) (Kd.S_far (p := ⟨gb205, 0, none⟩) (Kd.S_types HO190.out BK205.out (by decide)) (fun _ hk => hk.2) (.int .i64 t194)) (fun _ hk => hk.2) (.int .i64 t195)) (fun _ hk => hk.2) (.int .i64 t196)) (fun _ hk => hk.2) (.int .i64 t197)) (fun _ hk => hk.2) (.int .i64 t198)) (fun _ hk => hk.2) (.int .i64 t199)) (fun _ hk => hk.2) (.string t200)) (fun _ hk => hk.2) (.int .i64 t201)) (fun _ hk => hk.2) (.slice Ao31 t202.length co31)) (fun _ h_ => h_.1))) (Kd.R_base ho0) hb); have n1_ := Aside0.mk (Kd.S_elder' (by (with_reducible repeat (first | apply Kd.S_alloc | apply Kd.S_drewN | apply Kd.S_drew)); exact (Kd.S_mono (Kd.S_far (p := ⟨gb205, 8, none⟩) (Kd.S_far (p := ⟨gb205, 7, none⟩) (Kd.S_far (p := ⟨gb205, 6, none⟩) (Kd.S_far (p := ⟨gb205, 5, none⟩) (Kd.S_far (p := ⟨gb205, 4, none⟩) (Kd.S_far (p := ⟨gb205, 3, none⟩) (Kd.S_far (p := ⟨gb205, 2, none⟩) (Kd.S_far (p := ⟨gb205, 1, none⟩) (Kd.S_far (p := ⟨gb205, 0, none⟩) (Kd.S_types HO193.out BK205.out (by decide)) (fun _ hk => hk.2) (.int .i64 t194)) (fun _ hk => hk.2) (.int .i64 t195)) (fun _ hk => hk.2) (.int .i64 t196)) (fun _ hk => hk.2) (.int .i64 t197)) (fun _ hk => hk.2) (.int .i64 t198)) (fun _ hk => hk.2) (.int .i64 t199)) (fun _ hk => hk.2) (.string t200)) (fun _ hk => hk.2) (.int .i64 t201)) (fun _ hk => hk.2) (.slice Ao31 t202.length co31)) (fun _ h_ => h_.1))) (Kd.R_base ho0) hb); have n2_ := Aside0.mk (Kd.R_elder' (by (with_reducible repeat (first | apply Kd.R_alloc | apply Kd.R_drewN | apply Kd.R_drew)); exact (Kd.R_mono (Kd.R_far9 (g := gb205) (Kd.R_types HO204.out BK205.out (by decide)) (fun _ hk => hk.2)) (fun _ h_ => h_.1))) (Kd.R_base ho0) hb); have n3_ := Aside0.mk (Kd.R_lower (Kd.R_new' ho0 (Kd.R_lt (by (with_reducible repeat (first | apply Kd.R_alloc | apply Kd.R_drewN | apply Kd.R_drew)); exact (Kd.R_mono (Kd.R_far9 (g := gb205) (Kd.R_types HO204.out BK205.out (by decide)) (fun _ hk => hk.2)) (fun _ h_ => h_.1))))) (below_size (gw_ HB))); have n4_ := Aside0.mk (blk_below (g := gb205) (o := .cells #[.int .i64 t194, .int .i64 t195, .int .i64 t196, .int .i64 t197, .int .i64 t198, .int .i64 t199, .string t200, .int .i64 t201, .slice Ao31 t202.length co31] 37 (0, 0)) (by (with_reducible repeat (first | refine blk_drewN ?_ _ | refine blk_drew ?_ | refine blk_alloc ?_ _)); refine blk_put9 (cs := #[.int .i64 0, .int .i64 0, .int .i64 0, .int .i64 0, .int .i64 0, .int .i64 0, .string (⟨#[]⟩ : ByteArray), .int .i64 0, .slice none 0 0]) ?_ rfl; (with_reducible repeat (first | refine blk_drewN ?_ _ | refine blk_drew ?_ | refine blk_alloc ?_ _)); exact BK205.out) hb); have n5_ := Aside0.mk (below_step (gw_ HB) hb); clear HO190; clear HO193; clear HO204; clear BK205; clear HB; have HO190 := n0_; have HO193 := n1_; have HO204 := n2_; have HO216 := n3_; have BK205 := n4_; have HB := n5_; clear n0_ n1_ n2_ n3_ n4_ n5_; (try clear hb); (try clear hb2); (try clear hk); (try clear hi); (try clear ho0)) | ((with_reducible refine gate_dst (N := 4) rfl ?_); refine box_event ?hg (N := 4) ?hd (cs := #[.int .i64 0, .int .i64 0, .int .i64 0, .int .i64 0, .int .i64 0, .int .i64 0, .string (⟨#[]⟩ : ByteArray), .int .i64 0, .slice none 0 0]) (t := 37) ?hr ?_; (case hd => rfl); (case hg => rfl); (case hr => first | (go_simp; done) | (go_simp; rfl)); intro gb217 hg w34 hbox hb; have n0_ := Aside0.mk (Kd.S_below (by (with_reducible repeat (first | apply Kd.S_alloc | apply Kd.S_drewN | apply Kd.S_drew)); exact HO190.out) hb); have n1_ := Aside0.mk (Kd.S_below (by (with_reducible repeat (first | apply Kd.S_alloc | apply Kd.S_drewN | apply Kd.S_drew)); exact HO193.out) hb); have n2_ := Aside0.mk (Kd.R_below (Kd.rk HO204) hb); have n3_ := Aside0.mk (Kd.R_below (Kd.rk HO216) hb); have n4_ := Aside0.mk (blk_below (g := gb205) (bk BK205) hb); have s_ := step_size_ (gw_ HB) hb hg; have n5_ := Aside0.mk s_.1; have n6_ := Aside0.mk (hbox); have n7_ := Aside0.mk s_.2; clear s_; have n8_ := n7_; have l_ := blk_lt_ (g := gb205) hg (bk BK205); have n9_ := Aside0.mk (Nat.ne_of_lt l_); have n10_ := Aside0.mk (Nat.ne_of_gt l_); clear l_; clear HO190; clear HO193; clear HO204; clear HO216; clear BK205; clear HB; have HO190 := n0_; have HO193 := n1_; have HO204 := n2_; have HO216 := n3_; have BK205 := n4_; have HB := n5_; have BK217 := n6_; have GW217 := n7_; have GE217 := n8_; have NB205_217 := n9_; have NB217_205 := n10_; clear n0_ n1_ n2_ n3_ n4_ n5_ n6_ n7_ n8_ n9_ n10_; clear hb hbox hg; have hnb35 := NB217_205.out; have hnc35 := NB205_217.out; obtain ⟨hcz36_0, hcz36_1, hcz36_2, hcz36_3, hcz36_4, hcz36_5, hcz36_6, hcz36_7, hcz36_8⟩ := blk_cells9 BK217.out; obtain ⟨hfz36_0, hfz36_1, hfz36_2, hfz36_3, hfz36_4, hfz36_5, hfz36_6, hfz36_7, hfz36_8⟩ := blk_frozens9 BK217.out; obtain ⟨Ao37, co37, eo37⟩ := Kd.R_slice HO216.out; subst eo37; obtain ⟨hcz38_0, hcz38_1, hcz38_2, hcz38_3, hcz38_4, hcz38_5, hcz38_6, hcz38_7, hcz38_8⟩ := blk_cells9 BK205.out; obtain ⟨hfz38_0, hfz38_1, hfz38_2, hfz38_3, hfz38_4, hfz38_5, hfz38_6, hfz38_7⟩ := blk_frozens8 BK205.out; have hfz38_8 := blk_frozen BK205.out 8))
   go_ret
   exact ⟨by first | rfl | (simp [errW_none, errW_some] <;> rfl) | (simp [*, errW_none, errW_some] <;> rfl), gw_ HB⟩
 ·
  rw [if_neg c3] at H
  have c3b0 : (t194 == 4) = false := beq_eq_false_iff_ne.mpr c3
  have c3b1 : (t194 != 4) = true := bne_iff_ne.mpr c3
  obtain rfl := Option.some.inj H
  go_enter Try.func8, Try.ntmps8
  go_wp2_with (first | ((with_reducible refine gate_dst (N := 7) rfl ?_); refine Kd.S_lit k35 _ 35 ?hg (N := 7) ?hd (xs := ([(⟨1, (⟨0, (⟨0, 0⟩ : S26), (⟨0, 0⟩ : S26), (⟨0, 0, 0, 0, 0, (⟨#[]⟩ : ByteArray)⟩ : S28), (⟨0, ([] : List Int)⟩ : S31)⟩ : S33)⟩ : S35), (⟨3, (⟨0, (⟨0, 0⟩ : S26), (⟨0, 0⟩ : S26), (⟨0, 0, 0, 0, 0, (⟨#[]⟩ : ByteArray)⟩ : S28), (⟨0, ([] : List Int)⟩ : S31)⟩ : S33)⟩ : S35)] : List (S35))) (inner := [.int .i64 1, .int .i64 0, .int .i64 0, .int .i64 0, .int .i64 0, .int .i64 0, .int .i64 0, .int .i64 0, .int .i64 0, .int .i64 0, .int .i64 0, .string (⟨#[]⟩ : ByteArray), .int .i64 0, .slice none 0 0, .int .i64 3, .int .i64 0, .int .i64 0, .int .i64 0, .int .i64 0, .int .i64 0, .int .i64 0, .int .i64 0, .int .i64 0, .int .i64 0, .int .i64 0, .string (⟨#[]⟩ : ByteArray), .int .i64 0, .slice none 0 0]) (ok := fun _ => True) (okp := fun _ => True) ?hr ?hp (fun _ hk => hk) trivial (Below.refl _ _) (Nat.le_refl _) (by simp) ?_; (case hd => rfl); (case hg => rfl); (case hr => first | (go_simp; done) | (go_simp; rfl)); (case hp => exact (Reps.front (show Kd.M k35 _ _ _ (⟨1, (⟨0, (⟨0, 0⟩ : S26), (⟨0, 0⟩ : S26), (⟨0, 0, 0, 0, 0, (⟨#[]⟩ : ByteArray)⟩ : S28), (⟨0, ([] : List Int)⟩ : S31)⟩ : S33)⟩ : S35) [.int .i64 1, .int .i64 0, .int .i64 0, .int .i64 0, .int .i64 0, .int .i64 0, .int .i64 0, .int .i64 0, .int .i64 0, .int .i64 0, .int .i64 0, .string (⟨#[]⟩ : ByteArray), .int .i64 0, .slice none 0 0] from (k35_mkM _ _ _ (⟨1, (⟨0, (⟨0, 0⟩ : S26), (⟨0, 0⟩ : S26), (⟨0, 0, 0, 0, 0, (⟨#[]⟩ : ByteArray)⟩ : S28), (⟨0, ([] : List Int)⟩ : S31)⟩ : S33)⟩ : S35) (Kd.R_nil _ _ _ _ _))) rfl (Reps.front (show Kd.M k35 _ _ _ (⟨3, (⟨0, (⟨0, 0⟩ : S26), (⟨0, 0⟩ : S26), (⟨0, 0, 0, 0, 0, (⟨#[]⟩ : ByteArray)⟩ : S28), (⟨0, ([] : List Int)⟩ : S31)⟩ : S33)⟩ : S35) [.int .i64 3, .int .i64 0, .int .i64 0, .int .i64 0, .int .i64 0, .int .i64 0, .int .i64 0, .int .i64 0, .int .i64 0, .int .i64 0, .int .i64 0, .string (⟨#[]⟩ : ByteArray), .int .i64 0, .slice none 0 0] from (k35_mkM _ _ _ (⟨3, (⟨0, (⟨0, 0⟩ : S26), (⟨0, 0⟩ : S26), (⟨0, 0, 0, 0, 0, (⟨#[]⟩ : ByteArray)⟩ : S28), (⟨0, ([] : List Int)⟩ : S31)⟩ : S33)⟩ : S35) (Kd.R_nil _ _ _ _ _))) rfl (Reps.none _ _) rfl) rfl)); intro v189 w39 ho40 hb hg_ hnew_; clear hg_ hnew_; (first | rw [← Ny188.out] at ho40 | (simp only [Int.reduceToNat] at ho40; rw [← Ny188.out] at ho40)); have n0_ := Aside0.mk (Kd.S_lower ho40 (below_size (gw_ HB))); have n1_ := Aside0.mk (below_step (gw_ HB) hb); clear HB; have HO190 := n0_; have HB := n1_; clear n0_ n1_; clear hb ho40) | ((with_reducible refine gate_dst (N := 13) rfl ?_); refine Kd.S_lit k35 _ 35 ?hg (N := 13) ?hd (xs := ([(⟨1, (⟨1, (⟨0, 1⟩ : S26), (⟨0, 1⟩ : S26), (⟨0, 0, 0, 0, 0, (⟨#[]⟩ : ByteArray)⟩ : S28), (⟨0, ([] : List Int)⟩ : S31)⟩ : S33)⟩ : S35), (⟨3, (⟨0, (⟨0, 0⟩ : S26), (⟨0, 0⟩ : S26), (⟨0, 0, 0, 0, 0, (⟨#[]⟩ : ByteArray)⟩ : S28), (⟨0, ([] : List Int)⟩ : S31)⟩ : S33)⟩ : S35)] : List (S35))) (inner := [.int .i64 1, .int .i64 1, .int .i64 0, .int .i64 1, .int .i64 0, .int .i64 1, .int .i64 0, .int .i64 0, .int .i64 0, .int .i64 0, .int .i64 0, .string (⟨#[]⟩ : ByteArray), .int .i64 0, .slice none 0 0, .int .i64 3, .int .i64 0, .int .i64 0, .int .i64 0, .int .i64 0, .int .i64 0, .int .i64 0, .int .i64 0, .int .i64 0, .int .i64 0, .int .i64 0, .string (⟨#[]⟩ : ByteArray), .int .i64 0, .slice none 0 0]) (ok := fun _ => True) (okp := fun _ => True) ?hr ?hp (fun _ hk => hk) trivial (Below.refl _ _) (Nat.le_refl _) (by simp) ?_; (case hd => rfl); (case hg => rfl); (case hr => first | (go_simp; done) | (go_simp; rfl)); (case hp => exact (Reps.front (show Kd.M k35 _ _ _ (⟨1, (⟨1, (⟨0, 1⟩ : S26), (⟨0, 1⟩ : S26), (⟨0, 0, 0, 0, 0, (⟨#[]⟩ : ByteArray)⟩ : S28), (⟨0, ([] : List Int)⟩ : S31)⟩ : S33)⟩ : S35) [.int .i64 1, .int .i64 1, .int .i64 0, .int .i64 1, .int .i64 0, .int .i64 1, .int .i64 0, .int .i64 0, .int .i64 0, .int .i64 0, .int .i64 0, .string (⟨#[]⟩ : ByteArray), .int .i64 0, .slice none 0 0] from (k35_mkM _ _ _ (⟨1, (⟨1, (⟨0, 1⟩ : S26), (⟨0, 1⟩ : S26), (⟨0, 0, 0, 0, 0, (⟨#[]⟩ : ByteArray)⟩ : S28), (⟨0, ([] : List Int)⟩ : S31)⟩ : S33)⟩ : S35) (Kd.R_nil _ _ _ _ _))) rfl (Reps.front (show Kd.M k35 _ _ _ (⟨3, (⟨0, (⟨0, 0⟩ : S26), (⟨0, 0⟩ : S26), (⟨0, 0, 0, 0, 0, (⟨#[]⟩ : ByteArray)⟩ : S28), (⟨0, ([] : List Int)⟩ : S31)⟩ : S33)⟩ : S35) [.int .i64 3, .int .i64 0, .int .i64 0, .int .i64 0, .int .i64 0, .int .i64 0, .int .i64 0, .int .i64 0, .int .i64 0, .int .i64 0, .int .i64 0, .string (⟨#[]⟩ : ByteArray), .int .i64 0, .slice none 0 0] from (k35_mkM _ _ _ (⟨3, (⟨0, (⟨0, 0⟩ : S26), (⟨0, 0⟩ : S26), (⟨0, 0, 0, 0, 0, (⟨#[]⟩ : ByteArray)⟩ : S28), (⟨0, ([] : List Int)⟩ : S31)⟩ : S33)⟩ : S35) (Kd.R_nil _ _ _ _ _))) rfl (Reps.none _ _) rfl) rfl)); intro v192 w41 ho42 hb hg_ hnew_; clear hg_ hnew_; (first | rw [← Ny191.out] at ho42 | (simp only [Int.reduceToNat] at ho42; rw [← Ny191.out] at ho42)); have n0_ := Aside0.mk (Kd.S_elder' (by (with_reducible repeat (first | apply Kd.S_alloc | apply Kd.S_drewN | apply Kd.S_drew)); exact HO190.out) (Kd.S_base ho42) hb); have n1_ := Aside0.mk (Kd.S_lower (Kd.S_new' ho42 (Kd.S_lt (by (with_reducible repeat (first | apply Kd.S_alloc | apply Kd.S_drewN | apply Kd.S_drew)); exact HO190.out))) (below_size (gw_ HB))); have n2_ := Aside0.mk (below_step (gw_ HB) hb); clear HO190; clear HB; have HO190 := n0_; have HO193 := n1_; have HB := n2_; clear n0_ n1_ n2_; clear hb ho42; obtain ⟨Ao43, co43, eo43⟩ := Kd.S_slice HO190.out; subst eo43) | ((with_reducible refine gate_callee (f := 10) rfl ?_); refine goesL_ (some 15) rfl rfl Try.func10 (by kernel_rfl) rfl #[.int .i64 3, .int .i64 1, .slice Ao43 y188.length co43] rfl (by (try simp only [List.map_toArray, List.map_cons, List.map_nil]); first | done | rfl | (simp only [List.length_drop, List.length_take]; rfl)) ?_; (with_reducible refine (regain_Decide.calls 3 1 _ _ y188 t194 t195 t196 t197 t198 t199 t200 t201 t202 _ ?side1 ?side2 A1.out).mono ?_); (case side1 => repeat (first | exact (Kd.S_reads' HO190.out).2.2 | (with_reducible refine Kd.C_alloc ?_ _) | (with_reducible refine Kd.C_drewN ?_ _) | (with_reducible refine Kd.C_drew ?_))); (case side2 => exact (Kd.S_reads' HO190.out).2.1); rintro e w44 ⟨v203, rfl, ho0, hb⟩; refine ⟨_, rfl, ?_⟩; have n0_ := Aside0.mk (Kd.S_elder' (by (with_reducible repeat (first | apply Kd.S_alloc | apply Kd.S_drewN | apply Kd.S_drew)); exact HO190.out) (Kd.R_base ho0) hb); have n1_ := Aside0.mk (Kd.S_elder' (by (with_reducible repeat (first | apply Kd.S_alloc | apply Kd.S_drewN | apply Kd.S_drew)); exact HO193.out) (Kd.R_base ho0) hb); have n2_ := Aside0.mk (Kd.R_lower ho0 (below_size (gw_ HB))); have n3_ := Aside0.mk (below_step (gw_ HB) hb); clear HO190; clear HO193; clear HB; have HO190 := n0_; have HO193 := n1_; have HO204 := n2_; have HB := n3_; clear n0_ n1_ n2_ n3_; (try clear hb); (try clear hb2); (try clear hk); (try clear hi); (try clear ho0)) | ((with_reducible refine gate_dst (N := 3) rfl ?_); refine box_event ?hg (N := 3) ?hd (cs := #[.int .i64 0, .int .i64 0, .int .i64 0, .int .i64 0, .int .i64 0, .int .i64 0, .string (⟨#[]⟩ : ByteArray), .int .i64 0, .slice none 0 0]) (t := 37) ?hr ?_; (case hd => rfl); (case hg => rfl); (case hr => first | (go_simp; done) | (go_simp; rfl)); intro gb205 hg w45 hbox hb; have n0_ := Aside0.mk (Kd.S_below (by (with_reducible repeat (first | apply Kd.S_alloc | apply Kd.S_drewN | apply Kd.S_drew)); exact HO190.out) hb); have n1_ := Aside0.mk (Kd.S_below (by (with_reducible repeat (first | apply Kd.S_alloc | apply Kd.S_drewN | apply Kd.S_drew)); exact HO193.out) hb); have n2_ := Aside0.mk (Kd.R_below (Kd.rk HO204) hb); have s_ := step_size_ (gw_ HB) hb hg; have n3_ := Aside0.mk s_.1; have n4_ := Aside0.mk (hbox); have n5_ := Aside0.mk s_.2; clear s_; have n6_ := n5_; clear HO190; clear HO193; clear HO204; clear HB; have HO190 := n0_; have HO193 := n1_; have HO204 := n2_; have HB := n3_; have BK205 := n4_; have GW205 := n5_; have GE205 := n6_; clear n0_ n1_ n2_ n3_ n4_ n5_ n6_; clear hb hbox hg; obtain ⟨hcz46_0, hcz46_1, hcz46_2, hcz46_3, hcz46_4, hcz46_5, hcz46_6, hcz46_7, hcz46_8⟩ := blk_cells9 BK205.out; obtain ⟨hfz46_0, hfz46_1, hfz46_2, hfz46_3, hfz46_4, hfz46_5, hfz46_6, hfz46_7, hfz46_8⟩ := blk_frozens9 BK205.out; obtain ⟨Ao47, co47, eo47⟩ := Kd.R_slice HO204.out; subst eo47; obtain ⟨Ao48, co48, eo48⟩ := Kd.S_slice HO193.out; subst eo48) | ((with_reducible refine gate_callee (f := 10) rfl ?_); refine goesL_ (some 17) rfl rfl Try.func10 (by kernel_rfl) rfl #[.int .i64 3, .int .i64 1, .slice Ao48 y191.length co48] rfl (by (try simp only [List.map_toArray, List.map_cons, List.map_nil]); first | done | rfl | (simp only [List.length_drop, List.length_take]; rfl)) ?_; (with_reducible refine (regain_Decide.calls 3 1 _ _ y191 t206 t207 t208 t209 t210 t211 t212 t213 t214 _ ?side1 ?side2 A2.out).mono ?_); (case side1 => refine (Kd.S_reads' (e := 35) (base := w.heap.size) (ok := fun k_ => ((True ∧ some k_ ≠ (.slice Ao43 y188.length co43 : Value).ownBlock) ∧ some k_ ≠ (.slice Ao47 t202.length co47 : Value).ownBlock)) (n := y191.length) (c := co48) ?_).2.2; exact (by (with_reducible repeat (first | apply Kd.S_alloc | apply Kd.S_drewN | apply Kd.S_drew)); exact (Kd.S_mono (Kd.S_far (p := ⟨gb205, 8, none⟩) (Kd.S_far (p := ⟨gb205, 7, none⟩) (Kd.S_far (p := ⟨gb205, 6, none⟩) (Kd.S_far (p := ⟨gb205, 5, none⟩) (Kd.S_far (p := ⟨gb205, 4, none⟩) (Kd.S_far (p := ⟨gb205, 3, none⟩) (Kd.S_far (p := ⟨gb205, 2, none⟩) (Kd.S_far (p := ⟨gb205, 1, none⟩) (Kd.S_far (p := ⟨gb205, 0, none⟩) (Kd.S_types HO193.out BK205.out (by decide)) (fun _ hk => hk.2) (.int .i64 t194)) (fun _ hk => hk.2) (.int .i64 t195)) (fun _ hk => hk.2) (.int .i64 t196)) (fun _ hk => hk.2) (.int .i64 t197)) (fun _ hk => hk.2) (.int .i64 t198)) (fun _ hk => hk.2) (.int .i64 t199)) (fun _ hk => hk.2) (.string t200)) (fun _ hk => hk.2) (.int .i64 t201)) (fun _ hk => hk.2) (.slice Ao47 t202.length co47)) (fun _ h_ => h_.1)))); (case side2 => exact (Kd.S_reads' HO193.out).2.1); rintro e w49 ⟨v215, rfl, ho0, hb⟩; refine ⟨_, rfl, ?_⟩; have n0_ := Aside0.mk (Kd.S_elder' (by (with_reducible repeat (first | apply Kd.S_alloc | apply Kd.S_drewN | apply Kd.S_drew)); exact (Kd.S_mono (Kd.S_far (p := ⟨gb205, 8, none⟩) (Kd.S_far (p := ⟨gb205, 7, none⟩) (Kd.S_far (p := ⟨gb205, 6, none⟩) (Kd.S_far (p := ⟨gb205, 5, none⟩) (Kd.S_far (p := ⟨gb205, 4, none⟩) (Kd.S_far (p := ⟨gb205, 3, none⟩) (Kd.S_far (p := ⟨gb205, 2, none⟩) (Kd.S_far (p := ⟨gb205, 1, none⟩) (Kd.S_far (p := ⟨gb205, 0, none⟩) (Kd.S_types HO190.out BK205.out (by decide)) (fun _ hk => hk.2) (.int .i64 t194)) (fun _ hk => hk.2) (.int .i64 t195)) (fun _ hk => hk.2) (.int .i64 t196)) (fun _ hk => hk.2) (.int .i64 t197)) (fun _ hk => hk.2) (.int .i64 t198)) (fun _ hk => hk.2) (.int .i64 t199)) (fun _ hk => hk.2) (.string t200)) (fun _ hk => hk.2) (.int .i64 t201)) (fun _ hk => hk.2) (.slice Ao47 t202.length co47)) (fun _ h_ => h_.1))) (Kd.R_base ho0) hb); have n1_ := Aside0.mk (Kd.S_elder' (by (with_reducible repeat (first | apply Kd.S_alloc | apply Kd.S_drewN | apply Kd.S_drew)); exact (Kd.S_mono (Kd.S_far (p := ⟨gb205, 8, none⟩) (Kd.S_far (p := ⟨gb205, 7, none⟩) (Kd.S_far (p := ⟨gb205, 6, none⟩) (Kd.S_far (p := ⟨gb205, 5, none⟩) (Kd.S_far (p := ⟨gb205, 4, none⟩) (Kd.S_far (p := ⟨gb205, 3, none⟩) (Kd.S_far (p := ⟨gb205, 2, none⟩) (Kd.S_far (p := ⟨gb205, 1, none⟩) (Kd.S_far (p := ⟨gb205, 0, none⟩) (Kd.S_types HO193.out BK205.out (by decide)) (fun _ hk => hk.2) (.int .i64 t194)) (fun _ hk => hk.2) (.int .i64 t195)) (fun _ hk => hk.2) (.int .i64 t196)) (fun _ hk => hk.2) (.int .i64 t197)) (fun _ hk => hk.2) (.int .i64 t198)) (fun _ hk => hk.2) (.int .i64 t199)) (fun _ hk => hk.2) (.string t200)) (fun _ hk => hk.2) (.int .i64 t201)) (fun _ hk => hk.2) (.slice Ao47 t202.length co47)) (fun _ h_ => h_.1))) (Kd.R_base ho0) hb); have n2_ := Aside0.mk (Kd.R_elder' (by (with_reducible repeat (first | apply Kd.R_alloc | apply Kd.R_drewN | apply Kd.R_drew)); exact (Kd.R_mono (Kd.R_far9 (g := gb205) (Kd.R_types HO204.out BK205.out (by decide)) (fun _ hk => hk.2)) (fun _ h_ => h_.1))) (Kd.R_base ho0) hb); have n3_ := Aside0.mk (Kd.R_lower (Kd.R_new' ho0 (Kd.R_lt (by (with_reducible repeat (first | apply Kd.R_alloc | apply Kd.R_drewN | apply Kd.R_drew)); exact (Kd.R_mono (Kd.R_far9 (g := gb205) (Kd.R_types HO204.out BK205.out (by decide)) (fun _ hk => hk.2)) (fun _ h_ => h_.1))))) (below_size (gw_ HB))); have n4_ := Aside0.mk (blk_below (g := gb205) (o := .cells #[.int .i64 t194, .int .i64 t195, .int .i64 t196, .int .i64 t197, .int .i64 t198, .int .i64 t199, .string t200, .int .i64 t201, .slice Ao47 t202.length co47] 37 (0, 0)) (by (with_reducible repeat (first | refine blk_drewN ?_ _ | refine blk_drew ?_ | refine blk_alloc ?_ _)); refine blk_put9 (cs := #[.int .i64 0, .int .i64 0, .int .i64 0, .int .i64 0, .int .i64 0, .int .i64 0, .string (⟨#[]⟩ : ByteArray), .int .i64 0, .slice none 0 0]) ?_ rfl; (with_reducible repeat (first | refine blk_drewN ?_ _ | refine blk_drew ?_ | refine blk_alloc ?_ _)); exact BK205.out) hb); have n5_ := Aside0.mk (below_step (gw_ HB) hb); clear HO190; clear HO193; clear HO204; clear BK205; clear HB; have HO190 := n0_; have HO193 := n1_; have HO204 := n2_; have HO216 := n3_; have BK205 := n4_; have HB := n5_; clear n0_ n1_ n2_ n3_ n4_ n5_; (try clear hb); (try clear hb2); (try clear hk); (try clear hi); (try clear ho0)) | ((with_reducible refine gate_dst (N := 4) rfl ?_); refine box_event ?hg (N := 4) ?hd (cs := #[.int .i64 0, .int .i64 0, .int .i64 0, .int .i64 0, .int .i64 0, .int .i64 0, .string (⟨#[]⟩ : ByteArray), .int .i64 0, .slice none 0 0]) (t := 37) ?hr ?_; (case hd => rfl); (case hg => rfl); (case hr => first | (go_simp; done) | (go_simp; rfl)); intro gb217 hg w50 hbox hb; have n0_ := Aside0.mk (Kd.S_below (by (with_reducible repeat (first | apply Kd.S_alloc | apply Kd.S_drewN | apply Kd.S_drew)); exact HO190.out) hb); have n1_ := Aside0.mk (Kd.S_below (by (with_reducible repeat (first | apply Kd.S_alloc | apply Kd.S_drewN | apply Kd.S_drew)); exact HO193.out) hb); have n2_ := Aside0.mk (Kd.R_below (Kd.rk HO204) hb); have n3_ := Aside0.mk (Kd.R_below (Kd.rk HO216) hb); have n4_ := Aside0.mk (blk_below (g := gb205) (bk BK205) hb); have s_ := step_size_ (gw_ HB) hb hg; have n5_ := Aside0.mk s_.1; have n6_ := Aside0.mk (hbox); have n7_ := Aside0.mk s_.2; clear s_; have n8_ := n7_; have l_ := blk_lt_ (g := gb205) hg (bk BK205); have n9_ := Aside0.mk (Nat.ne_of_lt l_); have n10_ := Aside0.mk (Nat.ne_of_gt l_); clear l_; clear HO190; clear HO193; clear HO204; clear HO216; clear BK205; clear HB; have HO190 := n0_; have HO193 := n1_; have HO204 := n2_; have HO216 := n3_; have BK205 := n4_; have HB := n5_; have BK217 := n6_; have GW217 := n7_; have GE217 := n8_; have NB205_217 := n9_; have NB217_205 := n10_; clear n0_ n1_ n2_ n3_ n4_ n5_ n6_ n7_ n8_ n9_ n10_; clear hb hbox hg; have hnb51 := NB217_205.out; have hnc51 := NB205_217.out; obtain ⟨hcz52_0, hcz52_1, hcz52_2, hcz52_3, hcz52_4, hcz52_5, hcz52_6, hcz52_7, hcz52_8⟩ := blk_cells9 BK217.out; obtain ⟨hfz52_0, hfz52_1, hfz52_2, hfz52_3, hfz52_4, hfz52_5, hfz52_6, hfz52_7, hfz52_8⟩ := blk_frozens9 BK217.out; obtain ⟨Ao53, co53, eo53⟩ := Kd.R_slice HO216.out; subst eo53; obtain ⟨hcz54_0, hcz54_1, hcz54_2, hcz54_3, hcz54_4, hcz54_5, hcz54_6, hcz54_7, hcz54_8⟩ := blk_cells9 BK205.out; obtain ⟨hfz54_0, hfz54_1, hfz54_2, hfz54_3, hfz54_4, hfz54_5, hfz54_6, hfz54_7⟩ := blk_frozens8 BK205.out; have hfz54_8 := blk_frozen BK205.out 8))
  go_ret
  exact ⟨by first | rfl | (simp [errW_none, errW_some] <;> rfl) | (simp [*, errW_none, errW_some] <;> rfl), gw_ HB⟩

/-! ### colloquylaw10_few: function 9 -/
def colloquylaw10_few.l0 : Nat → List (S35) → Int → Option (Bool)
 | 0, _, _ => none
 | k + 1, x0, x3 => if x3 < (x0.length : Int) then (if 0 ≤ x3 then (if (((rd_T35 x0 x3).f1.f4.f1).length : Int) > 50 then (some false) else (colloquylaw10_few.l0 k x0 (wrap64 (x3 + 1)))) else (none)) else (some true)
def colloquylaw10_few.f (k : Nat) (l0 : List (S35)) : Option (Bool) := if (l0.length : Int) > 40 then (some false) else (colloquylaw10_few.l0 k l0 0)
theorem colloquylaw10_few.mono_l : ∀ k, (∀ y0 y1, LeO (colloquylaw10_few.l0 k y0 y1) (colloquylaw10_few.l0 (k + 1) y0 y1))
 | 0 => fun _ _ r h => by simp [colloquylaw10_few.l0] at h
 | k + 1 => by
  have ih0 := colloquylaw10_few.mono_l k
  ·
   intro y0 y1
   unfold colloquylaw10_few.l0
   repeat' first
   | (with_reducible exact ih0 _ _)
   | (with_reducible exact LeO.refl _)
   | (with_reducible exact LeO.none _)
   | (with_reducible refine LeO.ite ?_ ?_)
   | (with_reducible refine LeO.bind ?_ (fun _ => ?_))
   | exact ih0 _ _
   | exact LeO.none _
   | refine LeO.ite ?_ ?_
   | refine LeO.bind ?_ (fun _ => ?_)
theorem colloquylaw10_few.mono : ∀ a0 k, LeO (colloquylaw10_few.f k a0) (colloquylaw10_few.f (k + 1) a0) := by
 intro a0 k
 have ih0 := colloquylaw10_few.mono_l k
 unfold colloquylaw10_few.f
 repeat' first
   | (with_reducible exact ih0 _ _)
   | (with_reducible exact LeO.refl _)
   | (with_reducible exact LeO.none _)
   | (with_reducible refine LeO.ite ?_ ?_)
   | (with_reducible refine LeO.bind ?_ (fun _ => ?_))
   | exact ih0 _ _
   | exact LeO.none _
   | refine LeO.ite ?_ ?_
   | refine LeO.bind ?_ (fun _ => ?_)
set_option maxHeartbeats 8000000 in
set_option maxRecDepth 100000 in
theorem colloquylaw10_few.calls (k : Nat) (A0 : Option Addr) (c0 : Nat) (l0 : List (S35)) (r : Bool) (w : World) (hr0 : Kd.C k35 w A0 l0.length l0) (hc0 : l0.length ≤ c0) (h : colloquylaw10_few.f k l0 = some r) :
  Calls Try.prog 9 #[.slice A0 l0.length c0] w fun e w' => e = .returned (.bool r) ∧ Drawn0 w w' := by
 have HR0 := Aside0.mk hr0
 have HC0 := Aside0.mk hc0
 clear hr0 hc0
 have H : (if (l0.length : Int) > 40 then (some false) else (colloquylaw10_few.l0 k l0 0)) = some r := h
 clear h
 by_cases c2 : (l0.length : Int) > 40
 ·
  rw [if_pos c2] at H
  have c2b0 : decide (40 < (l0.length : Int)) = true := decide_eq_true c2
  have c2b1 : decide (40 < l0.length) = true := decide_eq_true (by omega)
  clear c2
  obtain rfl := Option.some.inj H
  go_enter Try.func9, Try.ntmps9
  go_wp2
  go_ret
  exact ⟨by first | rfl | (simp; done) | (simp [*]; done), by repeat (first | exact Drawn0.refl _ | apply Drawn0.step)⟩
 ·
  rw [if_neg c2] at H
  have c2b0 : decide (40 < (l0.length : Int)) = false := decide_eq_false c2
  have c2b1 : decide (40 < l0.length) = false := decide_eq_false (by omega)
  clear c2
  have H' := Aside0.mk H
  clear H
  go_enter Try.func9, Try.ntmps9
  go_wp2
  go_loopg [3] k (fun kq v3 w' => ∃ (x3_1 : Int), v3 = .int .i64 x3_1 ∧ Aside0 (colloquylaw10_few.l0 kq l0 x3_1 = some r) ∧ Aside0 (kq ≤ k) ∧ Drawn0 w w')
  case atStart => exact ⟨(0), (by first | rfl | (simp; done) | (simp [*]; done)), H', ⟨Nat.le_refl _⟩, by repeat (first | exact Drawn0.refl _ | apply Drawn0.step)⟩
  case round =>
   clear H'
   try clear c2
   try clear c2b0
   try clear c2b1
   try clear p2
   obtain ⟨x3_1, rfl, HA, HK1, ⟨m1, rfl⟩⟩ := hrel
   cases gk with
   | zero => exact absurd HA.out (by simp [colloquylaw10_few.l0])
   | succ k1 =>
    have H := HA.out
    clear HA
    simp only [colloquylaw10_few.l0] at H
    by_cases c3 : x3_1 < (l0.length : Int)
    ·
     rw [if_pos c3] at H
     have c3b0 : decide (x3_1 < (l0.length : Int)) = true := decide_eq_true c3
     clear c3
     by_cases c4 : 0 ≤ x3_1
     ·
      rw [if_pos c4] at H
      have c4b0 : decide (0 ≤ x3_1) = true := decide_eq_true c4
      clear c4
      by_cases c5 : (((rd_T35 l0 x3_1).f1.f4.f1).length : Int) > 50
      ·
       rw [if_pos c5] at H
       have c5b0 : decide (50 < (((rd_T35 l0 x3_1).f1.f4.f1).length : Int)) = true := decide_eq_true c5
       have c5b1 : decide (50 < ((rd_T35 l0 x3_1).f1.f4.f1).length) = true := decide_eq_true (by omega)
       clear c5
       obtain rfl := Option.some.inj H
       have p219 : 0 ≤ (x3_1 : Int) := of_decide_eq_true (by first | (with_reducible assumption) | assumption)
       have q219 : x3_1 < (l0.length : Int) := of_decide_eq_true (by first | (with_reducible assumption) | assumption)
       obtain ⟨ad219, A219_13, c219_13, e219, hx219_0, hx219_1, hx219_2, hx219_3, hx219_4, hx219_5, hx219_6, hx219_7, hx219_8, hx219_9, hx219_10, hx219_11, hx219_12, hx219_13, hl219_13, hi219_13⟩ := at_T35 HR0.out x3_1 p219 q219
       cases e219
       have HR219_13 := Aside0.mk hi219_13
       have HC219_13 := Aside0.mk hl219_13
       clear hi219_13 hl219_13
       replace p219 := eq_true p219
       replace q219 := eq_true q219
       go_wp2
       go_ret
       exact ⟨by first | rfl | (simp; done) | (simp [*]; done), by repeat (first | exact Drawn0.refl _ | apply Drawn0.step)⟩
      ·
       rw [if_neg c5] at H
       have c5b0 : decide (50 < (((rd_T35 l0 x3_1).f1.f4.f1).length : Int)) = false := decide_eq_false c5
       have c5b1 : decide (50 < ((rd_T35 l0 x3_1).f1.f4.f1).length) = false := decide_eq_false (by omega)
       clear c5
       have H' := Aside0.mk H
       clear H
       have p219 : 0 ≤ (x3_1 : Int) := of_decide_eq_true (by first | (with_reducible assumption) | assumption)
       have q219 : x3_1 < (l0.length : Int) := of_decide_eq_true (by first | (with_reducible assumption) | assumption)
       obtain ⟨ad219, A219_13, c219_13, e219, hx219_0, hx219_1, hx219_2, hx219_3, hx219_4, hx219_5, hx219_6, hx219_7, hx219_8, hx219_9, hx219_10, hx219_11, hx219_12, hx219_13, hl219_13, hi219_13⟩ := at_T35 HR0.out x3_1 p219 q219
       cases e219
       have HR219_13 := Aside0.mk hi219_13
       have HC219_13 := Aside0.mk hl219_13
       clear hi219_13 hl219_13
       replace p219 := eq_true p219
       replace q219 := eq_true q219
       go_wp2
       go_roundg k1
       case measure => have := HK1.out; omega
       case rel => exact ⟨(wrap64 (x3_1 + 1)), (by first | rfl | (simp; done) | (simp [*]; done)), H', ⟨by have := HK1.out; omega⟩, by repeat (first | exact Drawn0.refl _ | apply Drawn0.step)⟩
     ·
      rw [if_neg c4] at H
      exact absurd H (by simp)
    ·
     rw [if_neg c3] at H
     have c3b0 : decide (x3_1 < (l0.length : Int)) = false := decide_eq_false c3
     clear c3
     obtain rfl := Option.some.inj H
     go_wp2
     go_ret
     exact ⟨by first | rfl | (simp; done) | (simp [*]; done), by repeat (first | exact Drawn0.refl _ | apply Drawn0.step)⟩

/-! ### colloquylaw10_RegainDone: function 3 -/
mutual
def colloquylaw10_RegainDone.j0 : Nat → Int → Int → List (S35) → Bool → Bool → Option (Bool)
 | 0, _, _, _, _, _ => none
 | k + 1, x0, x1, x2, x7, x29 => if x29 = true then (some x7) else (colloquylaw10_RegainDone.l0 k x0 x1 x2 false 1)
def colloquylaw10_RegainDone.l0 : Nat → Int → Int → List (S35) → Bool → Int → Option (Bool)
 | 0, _, _, _, _, _ => none
 | k + 1, x0, x1, x2, x9, x10 => if x10 ≤ x0 then (colloquylaw10_RegainDone.l1 k x0 x1 x2 x9 x10 0) else ((regain_Decide.f x0 x1 x2).bind fun bt224 => (if x9 = true then (some (bt224.1 == 1)) else (if bt224.1 = 1 then (some false) else ((regain_Quorum.f x0).bind fun t236 => (if (x2.length : Int) ≥ t236 then (some true) else (some (bt224.1 == 0)))))))
def colloquylaw10_RegainDone.l1 : Nat → Int → Int → List (S35) → Bool → Int → Int → Option (Bool)
 | 0, _, _, _, _, _, _ => none
 | k + 1, x0, x1, x2, x9, x10, x11 => if x11 < (x2.length : Int) then (if 0 ≤ x11 then (if ((rd_T35 x2 x11).f0) = x10 then (if x9 = true then (colloquylaw10_RegainDone.l0 k x0 x1 x2 true (wrap64 (x10 + 1))) else (colloquylaw10_RegainDone.l0 k x0 x1 x2 (((rd_T35 x2 x11).f1.f0) == 3) (wrap64 (x10 + 1)))) else (colloquylaw10_RegainDone.l1 k x0 x1 x2 x9 x10 (wrap64 (x11 + 1)))) else (none)) else (colloquylaw10_RegainDone.l0 k x0 x1 x2 x9 (wrap64 (x10 + 1)))
end
def colloquylaw10_RegainDone.f (k : Nat) (a0 : Int) (a1 : Int) (l2 : List (S35)) : Option (Bool) := (colloquylaw10_awake.f).bind fun t220 => ((colloquylaw10_few.f k l2).bind fun t221 => (if t220 = true then (if t221 = true then (if a0 < 1 then (colloquylaw10_RegainDone.j0 k a0 a1 l2 t220 true) else (colloquylaw10_RegainDone.j0 k a0 a1 l2 t220 (decide (a0 > 7)))) else (colloquylaw10_RegainDone.j0 k a0 a1 l2 t220 true)) else (colloquylaw10_RegainDone.j0 k a0 a1 l2 t220 true)))
theorem colloquylaw10_RegainDone.mono_l : ∀ k, (∀ y0 y1 y2 y3 y4, LeO (colloquylaw10_RegainDone.j0 k y0 y1 y2 y3 y4) (colloquylaw10_RegainDone.j0 (k + 1) y0 y1 y2 y3 y4)) ∧ (∀ y0 y1 y2 y3 y4, LeO (colloquylaw10_RegainDone.l0 k y0 y1 y2 y3 y4) (colloquylaw10_RegainDone.l0 (k + 1) y0 y1 y2 y3 y4)) ∧ (∀ y0 y1 y2 y3 y4 y5, LeO (colloquylaw10_RegainDone.l1 k y0 y1 y2 y3 y4 y5) (colloquylaw10_RegainDone.l1 (k + 1) y0 y1 y2 y3 y4 y5))
 | 0 => ⟨fun _ _ _ _ _ r h => by simp [colloquylaw10_RegainDone.j0] at h, fun _ _ _ _ _ r h => by simp [colloquylaw10_RegainDone.l0] at h, fun _ _ _ _ _ _ r h => by simp [colloquylaw10_RegainDone.l1] at h⟩
 | k + 1 => by
  obtain ⟨ih0, ih1, ih2⟩ := colloquylaw10_RegainDone.mono_l k
  refine ⟨?_, ?_, ?_⟩
  ·
   intro y0 y1 y2 y3 y4
   unfold colloquylaw10_RegainDone.j0
   repeat' first
   | (with_reducible exact ih0 _ _ _ _ _)
   | (with_reducible exact ih1 _ _ _ _ _)
   | (with_reducible exact ih2 _ _ _ _ _ _)
   | (with_reducible exact colloquylaw10_few.mono _ _)
   | (with_reducible exact LeO.refl _)
   | (with_reducible exact LeO.none _)
   | (with_reducible refine LeO.ite ?_ ?_)
   | (with_reducible refine LeO.bind ?_ (fun _ => ?_))
   | exact ih0 _ _ _ _ _
   | exact ih1 _ _ _ _ _
   | exact ih2 _ _ _ _ _ _
   | exact colloquylaw10_few.mono _ _
   | exact LeO.none _
   | refine LeO.ite ?_ ?_
   | refine LeO.bind ?_ (fun _ => ?_)
  ·
   intro y0 y1 y2 y3 y4
   unfold colloquylaw10_RegainDone.l0
   repeat' first
   | (with_reducible exact ih0 _ _ _ _ _)
   | (with_reducible exact ih1 _ _ _ _ _)
   | (with_reducible exact ih2 _ _ _ _ _ _)
   | (with_reducible exact colloquylaw10_few.mono _ _)
   | (with_reducible exact LeO.refl _)
   | (with_reducible exact LeO.none _)
   | (with_reducible refine LeO.ite ?_ ?_)
   | (with_reducible refine LeO.bind ?_ (fun _ => ?_))
   | exact ih0 _ _ _ _ _
   | exact ih1 _ _ _ _ _
   | exact ih2 _ _ _ _ _ _
   | exact colloquylaw10_few.mono _ _
   | exact LeO.none _
   | refine LeO.ite ?_ ?_
   | refine LeO.bind ?_ (fun _ => ?_)
  ·
   intro y0 y1 y2 y3 y4 y5
   unfold colloquylaw10_RegainDone.l1
   repeat' first
   | (with_reducible exact ih0 _ _ _ _ _)
   | (with_reducible exact ih1 _ _ _ _ _)
   | (with_reducible exact ih2 _ _ _ _ _ _)
   | (with_reducible exact colloquylaw10_few.mono _ _)
   | (with_reducible exact LeO.refl _)
   | (with_reducible exact LeO.none _)
   | (with_reducible refine LeO.ite ?_ ?_)
   | (with_reducible refine LeO.bind ?_ (fun _ => ?_))
   | exact ih0 _ _ _ _ _
   | exact ih1 _ _ _ _ _
   | exact ih2 _ _ _ _ _ _
   | exact colloquylaw10_few.mono _ _
   | exact LeO.none _
   | refine LeO.ite ?_ ?_
   | refine LeO.bind ?_ (fun _ => ?_)
theorem colloquylaw10_RegainDone.mono : ∀ a0 a1 a2 k, LeO (colloquylaw10_RegainDone.f k a0 a1 a2) (colloquylaw10_RegainDone.f (k + 1) a0 a1 a2) := by
 intro a0 a1 a2 k
 obtain ⟨ih0, ih1, ih2⟩ := colloquylaw10_RegainDone.mono_l k
 unfold colloquylaw10_RegainDone.f
 repeat' first
   | (with_reducible exact ih0 _ _ _ _ _)
   | (with_reducible exact ih1 _ _ _ _ _)
   | (with_reducible exact ih2 _ _ _ _ _ _)
   | (with_reducible exact colloquylaw10_few.mono _ _)
   | (with_reducible exact LeO.refl _)
   | (with_reducible exact LeO.none _)
   | (with_reducible refine LeO.ite ?_ ?_)
   | (with_reducible refine LeO.bind ?_ (fun _ => ?_))
   | exact ih0 _ _ _ _ _
   | exact ih1 _ _ _ _ _
   | exact ih2 _ _ _ _ _ _
   | exact colloquylaw10_few.mono _ _
   | exact LeO.none _
   | refine LeO.ite ?_ ?_
   | refine LeO.bind ?_ (fun _ => ?_)
set_option maxHeartbeats 8000000 in
set_option maxRecDepth 100000 in
theorem colloquylaw10_RegainDone.calls (k : Nat) (a0 : Int) (a1 : Int) (A2 : Option Addr) (c2 : Nat) (l2 : List (S35)) (r : Bool) (w : World) (hr2 : Kd.C k35 w A2 l2.length l2) (hc2 : l2.length ≤ c2) (hrt : r = true) (h : colloquylaw10_RegainDone.f k a0 a1 l2 = some r) :
  Calls Try.prog 3 #[.int .i64 a0, .int .i64 a1, .slice A2 l2.length c2] w fun e w' => e = .returned (.bool r) ∧ Below w.heap.size w w' := by
 have hu37 := Try.underlying37
 have HRT := Aside0.mk hrt
 clear hrt
 have HR2 := Aside0.mk hr2
 have HC2 := Aside0.mk hc2
 clear hr2 hc2
 have HB := Aside0.mk (Below.refl w.heap.size w)
 have H : ((colloquylaw10_awake.f).bind fun t220 => ((colloquylaw10_few.f k l2).bind fun t221 => (if t220 = true then (if t221 = true then (if a0 < 1 then (colloquylaw10_RegainDone.j0 k a0 a1 l2 t220 true) else (colloquylaw10_RegainDone.j0 k a0 a1 l2 t220 (decide (a0 > 7)))) else (colloquylaw10_RegainDone.j0 k a0 a1 l2 t220 true)) else (colloquylaw10_RegainDone.j0 k a0 a1 l2 t220 true)))) = some r := h
 clear h
 replace H := Option.bind_eq_some_iff.mp H
 obtain ⟨t220, A40, H⟩ := H
 replace H : ((colloquylaw10_few.f k l2).bind fun t221 => (if t220 = true then (if t221 = true then (if a0 < 1 then (colloquylaw10_RegainDone.j0 k a0 a1 l2 t220 true) else (colloquylaw10_RegainDone.j0 k a0 a1 l2 t220 (decide (a0 > 7)))) else (colloquylaw10_RegainDone.j0 k a0 a1 l2 t220 true)) else (colloquylaw10_RegainDone.j0 k a0 a1 l2 t220 true))) = some r := H
 have A4 := Aside0.mk A40
 clear A40
 replace H := Option.bind_eq_some_iff.mp H
 obtain ⟨t221, A50, H⟩ := H
 replace H : (if t220 = true then (if t221 = true then (if a0 < 1 then (colloquylaw10_RegainDone.j0 k a0 a1 l2 t220 true) else (colloquylaw10_RegainDone.j0 k a0 a1 l2 t220 (decide (a0 > 7)))) else (colloquylaw10_RegainDone.j0 k a0 a1 l2 t220 true)) else (colloquylaw10_RegainDone.j0 k a0 a1 l2 t220 true)) = some r := H
 have A5 := Aside0.mk A50
 clear A50
 have HC6 := Aside0.mk H
 clear H
 go_enter Try.func3, Try.ntmps3
 go_upto_region 3 with (first | ((with_reducible refine gate_callee (f := 8) rfl ?_); refine goesL_ (some 13) rfl rfl Try.func8 (by kernel_rfl) rfl #[] rfl (by (try simp only [List.map_toArray, List.map_cons, List.map_nil]); first | done | rfl | (simp only [List.length_drop, List.length_take]; rfl)) ?_; (with_reducible refine (colloquylaw10_awake.calls  t220 _ A4.out).mono ?_); rintro e w7 ⟨rfl, hb⟩; refine ⟨_, rfl, ?_⟩; have n0_ := Aside0.mk (below_step (gw_ HB) hb); clear HB; have HB := n0_; clear n0_; (try clear hb); (try clear hb2); (try clear hk); (try clear hi)) | ((with_reducible refine gate_callee (f := 9) rfl ?_); refine goesL_ (some 15) rfl rfl Try.func9 (by kernel_rfl) rfl #[.slice A2 l2.length c2] rfl (by (try simp only [List.map_toArray, List.map_cons, List.map_nil]); first | done | rfl | (simp only [List.length_drop, List.length_take]; rfl)) ?_; (with_reducible refine (colloquylaw10_few.calls k _ _ l2 t221 _ ?side1 ?side2 A5.out).mono ?_); (case side1 => repeat (first | exact (Kd.C_below HR2.out HB.out) | (with_reducible refine Kd.C_alloc ?_ _) | (with_reducible refine Kd.C_drewN ?_ _) | (with_reducible refine Kd.C_drew ?_))); (case side2 => exact HC2.out); rintro e w' ⟨rfl, ⟨nd, rfl⟩⟩; refine ⟨_, rfl, ?_⟩))
 (try simp only [Act.put, List.setIfInBounds_toArray, List.set_cons_zero, List.set_cons_succ])
 go_cut [29] (fun v29 wc => ∃ (kq : Nat) (x29_5 : Bool), v29 = .bool x29_5 ∧ Aside0 (colloquylaw10_RegainDone.j0 kq a0 a1 l2 t220 x29_5 = some r) ∧ Aside0 (kq ≤ k) ∧ Aside0 (Below w.heap.size w wc))
 case first =>
  have H := HC6.out
  clear HC6
  by_cases c8 : t220 = true
  ·
   subst c8
   have H1 : (if t221 = true then (if a0 < 1 then (colloquylaw10_RegainDone.j0 k a0 a1 l2 true true) else (colloquylaw10_RegainDone.j0 k a0 a1 l2 true (decide (a0 > 7)))) else (colloquylaw10_RegainDone.j0 k a0 a1 l2 true true)) = some r := by rw [if_pos rfl] at H; exact H
   clear H
   have H := H1
   clear H1
   by_cases c9 : t221 = true
   ·
    subst c9
    have H1 : (if a0 < 1 then (colloquylaw10_RegainDone.j0 k a0 a1 l2 true true) else (colloquylaw10_RegainDone.j0 k a0 a1 l2 true (decide (a0 > 7)))) = some r := by rw [if_pos rfl] at H; exact H
    clear H
    have H := H1
    clear H1
    by_cases c10 : a0 < 1
    ·
     rw [if_pos c10] at H
     have c10b0 : decide (a0 < 1) = true := decide_eq_true c10
     clear c10
     (first | rw [c10b0] | (simp only [i64_w, i32_w]; rw [c10b0]) | skip)
     have H' := Aside0.mk H
     clear H
     go_wp2
     go_meet
     case rel => exact ⟨_, (true), (by first | rfl | (simp; done) | (simp [*]; done)), H', ⟨by first | omega | exact Nat.le_refl _⟩, ⟨gw_ HB⟩⟩
    ·
     rw [if_neg c10] at H
     have c10b0 : decide (a0 < 1) = false := decide_eq_false c10
     clear c10
     (first | rw [c10b0] | (simp only [i64_w, i32_w]; rw [c10b0]) | skip)
     have H' := Aside0.mk H
     clear H
     go_wp2
     go_meet
     case rel => exact ⟨_, (decide (a0 > 7)), (by first | rfl | (simp; done) | (simp [*]; done)), H', ⟨by first | omega | exact Nat.le_refl _⟩, ⟨gw_ HB⟩⟩
   ·
    replace c9 := Bool.eq_false_iff.mpr c9
    subst c9
    have H1 : (colloquylaw10_RegainDone.j0 k a0 a1 l2 true true) = some r := by rw [if_neg (show ¬ (false = true) by decide)] at H; exact H
    clear H
    have H := H1
    clear H1
    have H' := Aside0.mk H
    clear H
    go_wp2
    go_meet
    case rel => exact ⟨_, (true), (by first | rfl | (simp; done) | (simp [*]; done)), H', ⟨by first | omega | exact Nat.le_refl _⟩, ⟨gw_ HB⟩⟩
  ·
   replace c8 := Bool.eq_false_iff.mpr c8
   subst c8
   have H1 : (colloquylaw10_RegainDone.j0 k a0 a1 l2 false true) = some r := by rw [if_neg (show ¬ (false = true) by decide)] at H; exact H
   clear H
   have H := H1
   clear H1
   have H' := Aside0.mk H
   clear H
   go_wp2
   go_meet
   case rel => exact ⟨_, (true), (by first | rfl | (simp; done) | (simp [*]; done)), H', ⟨by first | omega | exact Nat.le_refl _⟩, ⟨gw_ HB⟩⟩
 case rest =>
  clear HC6
  try clear c1
  try clear c2
  try clear p2
  try clear c3
  try clear c8
  try clear c9
  try clear c10
  try clear c10b0
  obtain ⟨kq, x29_5, rfl, HA, HJ5, HB⟩ := hcut
  cases kq with
  | zero => exact absurd HA.out (by simp [colloquylaw10_RegainDone.j0])
  | succ kj5 =>
   have H := HA.out
   clear HA
   simp only [colloquylaw10_RegainDone.j0] at H
   by_cases c11 : x29_5 = true
   ·
    subst c11
    have H1 : (some t220) = some r := by rw [if_pos rfl] at H; exact H
    clear H
    have H := H1
    clear H1
    obtain rfl := Option.some.inj H
    go_wp2
    go_ret
    exact ⟨by first | rfl | (simp [errW_none, errW_some] <;> rfl) | (simp [*, errW_none, errW_some] <;> rfl), gw_ HB⟩
   ·
    replace c11 := Bool.eq_false_iff.mpr c11
    subst c11
    have H1 : (colloquylaw10_RegainDone.l0 kj5 a0 a1 l2 false 1) = some r := by rw [if_neg (show ¬ (false = true) by decide)] at H; exact H
    clear H
    have H := H1
    clear H1
    have H' := Aside0.mk H
    clear H
    go_wp2
    go_loopg [9, 10] kj5 (fun kq v9 v10 w' => ∃ (x9_2 : Bool) (x10_2 : Int), v9 = .bool x9_2 ∧ v10 = .int .i64 x10_2 ∧ Aside0 (colloquylaw10_RegainDone.l0 kq a0 a1 l2 x9_2 x10_2 = some r) ∧ Aside0 (kq ≤ kj5) ∧ Aside0 (Below w.heap.size w w'))
    case atStart => exact ⟨(false), (1), (by first | rfl | (simp; done) | (simp [*]; done)), (by first | rfl | (simp; done) | (simp [*]; done)), H', ⟨Nat.le_refl _⟩, ⟨gw_ HB⟩⟩
    case round =>
     clear H'
     try clear c1
     try clear c2
     try clear p2
     try clear c3
     try clear c8
     try clear c9
     try clear c10
     try clear c10b0
     try clear c11
     try clear p2
     obtain ⟨x9_2, x10_2, rfl, rfl, HA, HK2, HB⟩ := hrel
     cases gk with
     | zero => exact absurd HA.out (by simp [colloquylaw10_RegainDone.l0])
     | succ k2 =>
      have H := HA.out
      clear HA
      simp only [colloquylaw10_RegainDone.l0] at H
      by_cases c12 : x10_2 ≤ a0
      ·
       rw [if_pos c12] at H
       have c12b0 : decide (x10_2 ≤ a0) = true := decide_eq_true c12
       clear c12
       have H' := Aside0.mk H
       clear H
       go_wp2
       go_loopg [9, 11] k2 (fun kq v9 v11 w' => ∃ (x9_3 : Bool) (x11_3 : Int), v9 = .bool x9_3 ∧ v11 = .int .i64 x11_3 ∧ Aside0 (colloquylaw10_RegainDone.l1 kq a0 a1 l2 x9_3 x10_2 x11_3 = some r) ∧ Aside0 (kq ≤ k2) ∧ Aside0 (Below w.heap.size w w'))
       case atStart => exact ⟨(x9_2), (0), (by first | rfl | (simp; done) | (simp [*]; done)), (by first | rfl | (simp; done) | (simp [*]; done)), H', ⟨Nat.le_refl _⟩, ⟨gw_ HB⟩⟩
       case round =>
        clear H'
        try clear c1
        try clear c2
        try clear p2
        try clear c3
        try clear c8
        try clear c9
        try clear c10
        try clear c10b0
        try clear c11
        try clear c12
        try clear c12b0
        try clear p2
        obtain ⟨x9_3, x11_3, rfl, rfl, HA, HK3, HB⟩ := hrel
        cases gk with
        | zero => exact absurd HA.out (by simp [colloquylaw10_RegainDone.l1])
        | succ k3 =>
         have H := HA.out
         clear HA
         simp only [colloquylaw10_RegainDone.l1] at H
         by_cases c13 : x11_3 < (l2.length : Int)
         ·
          rw [if_pos c13] at H
          have c13b0 : decide (x11_3 < (l2.length : Int)) = true := decide_eq_true c13
          clear c13
          by_cases c14 : 0 ≤ x11_3
          ·
           rw [if_pos c14] at H
           have c14b0 : decide (0 ≤ x11_3) = true := decide_eq_true c14
           clear c14
           by_cases c15 : ((rd_T35 l2 x11_3).f0) = x10_2
           ·
            rw [if_pos c15] at H
            have c15b0 : (((rd_T35 l2 x11_3).f0) == x10_2) = true := beq_iff_eq.mpr c15
            have c15b1 : (((rd_T35 l2 x11_3).f0) != x10_2) = false := bne_eq_false_iff_eq.mpr c15
            clear c15
            by_cases c16 : x9_3 = true
            ·
             subst c16
             have H1 : (colloquylaw10_RegainDone.l0 k3 a0 a1 l2 true (wrap64 (x10_2 + 1))) = some r := by rw [if_pos rfl] at H; exact H
             clear H
             have H := H1
             clear H1
             have H' := Aside0.mk H
             clear H
             have p222 : 0 ≤ (x11_3 : Int) := of_decide_eq_true (by first | (with_reducible assumption) | assumption)
             have q222 : x11_3 < (l2.length : Int) := of_decide_eq_true (by first | (with_reducible assumption) | assumption)
             obtain ⟨ad222, A222_13, c222_13, e222, hx222_0, hx222_1, hx222_2, hx222_3, hx222_4, hx222_5, hx222_6, hx222_7, hx222_8, hx222_9, hx222_10, hx222_11, hx222_12, hx222_13, hl222_13, hi222_13⟩ := at_T35 HR2.out x11_3 p222 q222
             cases e222
             replace hx222_0 := (HB.out.cell (World.block_lt_of_cell? w _ hx222_0)).trans hx222_0
             replace hx222_1 := (HB.out.cell (World.block_lt_of_cell? w _ hx222_1)).trans hx222_1
             replace hx222_2 := (HB.out.cell (World.block_lt_of_cell? w _ hx222_2)).trans hx222_2
             replace hx222_3 := (HB.out.cell (World.block_lt_of_cell? w _ hx222_3)).trans hx222_3
             replace hx222_4 := (HB.out.cell (World.block_lt_of_cell? w _ hx222_4)).trans hx222_4
             replace hx222_5 := (HB.out.cell (World.block_lt_of_cell? w _ hx222_5)).trans hx222_5
             replace hx222_6 := (HB.out.cell (World.block_lt_of_cell? w _ hx222_6)).trans hx222_6
             replace hx222_7 := (HB.out.cell (World.block_lt_of_cell? w _ hx222_7)).trans hx222_7
             replace hx222_8 := (HB.out.cell (World.block_lt_of_cell? w _ hx222_8)).trans hx222_8
             replace hx222_9 := (HB.out.cell (World.block_lt_of_cell? w _ hx222_9)).trans hx222_9
             replace hx222_10 := (HB.out.cell (World.block_lt_of_cell? w _ hx222_10)).trans hx222_10
             replace hx222_11 := (HB.out.cell (World.block_lt_of_cell? w _ hx222_11)).trans hx222_11
             replace hx222_12 := (HB.out.cell (World.block_lt_of_cell? w _ hx222_12)).trans hx222_12
             replace hx222_13 := (HB.out.cell (World.block_lt_of_cell? w _ hx222_13)).trans hx222_13
             have HR222_13 := Aside0.mk hi222_13
             have HC222_13 := Aside0.mk hl222_13
             clear hi222_13 hl222_13
             replace p222 := eq_true p222
             replace q222 := eq_true q222
             go_wp2
             go_roundg k3
             case measure => have := HJ5.out; have := HK2.out; have := HK3.out; omega
             case rel => exact ⟨(true), (wrap64 (x10_2 + 1)), (by first | rfl | (simp; done) | (simp [*]; done)), (by first | rfl | (simp; done) | (simp [*]; done)), H', ⟨by have := HJ5.out; have := HK2.out; have := HK3.out; omega⟩, ⟨gw_ HB⟩⟩
            ·
             replace c16 := Bool.eq_false_iff.mpr c16
             subst c16
             have H1 : (colloquylaw10_RegainDone.l0 k3 a0 a1 l2 (((rd_T35 l2 x11_3).f1.f0) == 3) (wrap64 (x10_2 + 1))) = some r := by rw [if_neg (show ¬ (false = true) by decide)] at H; exact H
             clear H
             have H := H1
             clear H1
             have H' := Aside0.mk H
             clear H
             have p222 : 0 ≤ (x11_3 : Int) := of_decide_eq_true (by first | (with_reducible assumption) | assumption)
             have q222 : x11_3 < (l2.length : Int) := of_decide_eq_true (by first | (with_reducible assumption) | assumption)
             obtain ⟨ad222, A222_13, c222_13, e222, hx222_0, hx222_1, hx222_2, hx222_3, hx222_4, hx222_5, hx222_6, hx222_7, hx222_8, hx222_9, hx222_10, hx222_11, hx222_12, hx222_13, hl222_13, hi222_13⟩ := at_T35 HR2.out x11_3 p222 q222
             cases e222
             replace hx222_0 := (HB.out.cell (World.block_lt_of_cell? w _ hx222_0)).trans hx222_0
             replace hx222_1 := (HB.out.cell (World.block_lt_of_cell? w _ hx222_1)).trans hx222_1
             replace hx222_2 := (HB.out.cell (World.block_lt_of_cell? w _ hx222_2)).trans hx222_2
             replace hx222_3 := (HB.out.cell (World.block_lt_of_cell? w _ hx222_3)).trans hx222_3
             replace hx222_4 := (HB.out.cell (World.block_lt_of_cell? w _ hx222_4)).trans hx222_4
             replace hx222_5 := (HB.out.cell (World.block_lt_of_cell? w _ hx222_5)).trans hx222_5
             replace hx222_6 := (HB.out.cell (World.block_lt_of_cell? w _ hx222_6)).trans hx222_6
             replace hx222_7 := (HB.out.cell (World.block_lt_of_cell? w _ hx222_7)).trans hx222_7
             replace hx222_8 := (HB.out.cell (World.block_lt_of_cell? w _ hx222_8)).trans hx222_8
             replace hx222_9 := (HB.out.cell (World.block_lt_of_cell? w _ hx222_9)).trans hx222_9
             replace hx222_10 := (HB.out.cell (World.block_lt_of_cell? w _ hx222_10)).trans hx222_10
             replace hx222_11 := (HB.out.cell (World.block_lt_of_cell? w _ hx222_11)).trans hx222_11
             replace hx222_12 := (HB.out.cell (World.block_lt_of_cell? w _ hx222_12)).trans hx222_12
             replace hx222_13 := (HB.out.cell (World.block_lt_of_cell? w _ hx222_13)).trans hx222_13
             have HR222_13 := Aside0.mk hi222_13
             have HC222_13 := Aside0.mk hl222_13
             clear hi222_13 hl222_13
             replace p222 := eq_true p222
             replace q222 := eq_true q222
             have p223 : 0 ≤ (x11_3 : Int) := of_decide_eq_true (by first | (with_reducible assumption) | assumption)
             have q223 : x11_3 < (l2.length : Int) := of_decide_eq_true (by first | (with_reducible assumption) | assumption)
             obtain ⟨ad223, A223_13, c223_13, e223, hx223_0, hx223_1, hx223_2, hx223_3, hx223_4, hx223_5, hx223_6, hx223_7, hx223_8, hx223_9, hx223_10, hx223_11, hx223_12, hx223_13, hl223_13, hi223_13⟩ := at_T35 HR2.out x11_3 p223 q223
             obtain rfl : ad222 = ad223 := (by injection e223)
             replace hx223_0 := (HB.out.cell (World.block_lt_of_cell? w _ hx223_0)).trans hx223_0
             replace hx223_1 := (HB.out.cell (World.block_lt_of_cell? w _ hx223_1)).trans hx223_1
             replace hx223_2 := (HB.out.cell (World.block_lt_of_cell? w _ hx223_2)).trans hx223_2
             replace hx223_3 := (HB.out.cell (World.block_lt_of_cell? w _ hx223_3)).trans hx223_3
             replace hx223_4 := (HB.out.cell (World.block_lt_of_cell? w _ hx223_4)).trans hx223_4
             replace hx223_5 := (HB.out.cell (World.block_lt_of_cell? w _ hx223_5)).trans hx223_5
             replace hx223_6 := (HB.out.cell (World.block_lt_of_cell? w _ hx223_6)).trans hx223_6
             replace hx223_7 := (HB.out.cell (World.block_lt_of_cell? w _ hx223_7)).trans hx223_7
             replace hx223_8 := (HB.out.cell (World.block_lt_of_cell? w _ hx223_8)).trans hx223_8
             replace hx223_9 := (HB.out.cell (World.block_lt_of_cell? w _ hx223_9)).trans hx223_9
             replace hx223_10 := (HB.out.cell (World.block_lt_of_cell? w _ hx223_10)).trans hx223_10
             replace hx223_11 := (HB.out.cell (World.block_lt_of_cell? w _ hx223_11)).trans hx223_11
             replace hx223_12 := (HB.out.cell (World.block_lt_of_cell? w _ hx223_12)).trans hx223_12
             replace hx223_13 := (HB.out.cell (World.block_lt_of_cell? w _ hx223_13)).trans hx223_13
             have HR223_13 := Aside0.mk hi223_13
             have HC223_13 := Aside0.mk hl223_13
             clear hi223_13 hl223_13
             replace p223 := eq_true p223
             replace q223 := eq_true q223
             have ea_ := Option.some.inj (hx222_13.symm.trans hx223_13)
             injection ea_ with ea_ en_ ec_
             subst ea_
             subst ec_
             clear en_
             go_wp2
             go_roundg k3
             case measure => have := HJ5.out; have := HK2.out; have := HK3.out; omega
             case rel => exact ⟨((((rd_T35 l2 x11_3).f1.f0) == 3)), (wrap64 (x10_2 + 1)), (by first | rfl | (simp; done) | (simp [*]; done)), (by first | rfl | (simp; done) | (simp [*]; done)), H', ⟨by have := HJ5.out; have := HK2.out; have := HK3.out; omega⟩, ⟨gw_ HB⟩⟩
           ·
            rw [if_neg c15] at H
            have c15b0 : (((rd_T35 l2 x11_3).f0) == x10_2) = false := beq_eq_false_iff_ne.mpr c15
            have c15b1 : (((rd_T35 l2 x11_3).f0) != x10_2) = true := bne_iff_ne.mpr c15
            have H' := Aside0.mk H
            clear H
            have p222 : 0 ≤ (x11_3 : Int) := of_decide_eq_true (by first | (with_reducible assumption) | assumption)
            have q222 : x11_3 < (l2.length : Int) := of_decide_eq_true (by first | (with_reducible assumption) | assumption)
            obtain ⟨ad222, A222_13, c222_13, e222, hx222_0, hx222_1, hx222_2, hx222_3, hx222_4, hx222_5, hx222_6, hx222_7, hx222_8, hx222_9, hx222_10, hx222_11, hx222_12, hx222_13, hl222_13, hi222_13⟩ := at_T35 HR2.out x11_3 p222 q222
            cases e222
            replace hx222_0 := (HB.out.cell (World.block_lt_of_cell? w _ hx222_0)).trans hx222_0
            replace hx222_1 := (HB.out.cell (World.block_lt_of_cell? w _ hx222_1)).trans hx222_1
            replace hx222_2 := (HB.out.cell (World.block_lt_of_cell? w _ hx222_2)).trans hx222_2
            replace hx222_3 := (HB.out.cell (World.block_lt_of_cell? w _ hx222_3)).trans hx222_3
            replace hx222_4 := (HB.out.cell (World.block_lt_of_cell? w _ hx222_4)).trans hx222_4
            replace hx222_5 := (HB.out.cell (World.block_lt_of_cell? w _ hx222_5)).trans hx222_5
            replace hx222_6 := (HB.out.cell (World.block_lt_of_cell? w _ hx222_6)).trans hx222_6
            replace hx222_7 := (HB.out.cell (World.block_lt_of_cell? w _ hx222_7)).trans hx222_7
            replace hx222_8 := (HB.out.cell (World.block_lt_of_cell? w _ hx222_8)).trans hx222_8
            replace hx222_9 := (HB.out.cell (World.block_lt_of_cell? w _ hx222_9)).trans hx222_9
            replace hx222_10 := (HB.out.cell (World.block_lt_of_cell? w _ hx222_10)).trans hx222_10
            replace hx222_11 := (HB.out.cell (World.block_lt_of_cell? w _ hx222_11)).trans hx222_11
            replace hx222_12 := (HB.out.cell (World.block_lt_of_cell? w _ hx222_12)).trans hx222_12
            replace hx222_13 := (HB.out.cell (World.block_lt_of_cell? w _ hx222_13)).trans hx222_13
            have HR222_13 := Aside0.mk hi222_13
            have HC222_13 := Aside0.mk hl222_13
            clear hi222_13 hl222_13
            replace p222 := eq_true p222
            replace q222 := eq_true q222
            go_wp2
            go_roundg k3
            case measure => have := HJ5.out; have := HK2.out; have := HK3.out; omega
            case rel => exact ⟨(x9_3), (wrap64 (x11_3 + 1)), (by first | rfl | (simp; done) | (simp [*]; done)), (by first | rfl | (simp; done) | (simp [*]; done)), H', ⟨by have := HJ5.out; have := HK2.out; have := HK3.out; omega⟩, ⟨gw_ HB⟩⟩
          ·
           rw [if_neg c14] at H
           exact absurd H (by simp)
         ·
          rw [if_neg c13] at H
          have c13b0 : decide (x11_3 < (l2.length : Int)) = false := decide_eq_false c13
          clear c13
          have H' := Aside0.mk H
          clear H
          go_wp2
          go_roundg k3
          case measure => have := HJ5.out; have := HK2.out; have := HK3.out; omega
          case rel => exact ⟨(x9_3), (wrap64 (x10_2 + 1)), (by first | rfl | (simp; done) | (simp [*]; done)), (by first | rfl | (simp; done) | (simp [*]; done)), H', ⟨by have := HJ5.out; have := HK2.out; have := HK3.out; omega⟩, ⟨gw_ HB⟩⟩
      ·
       rw [if_neg c12] at H
       have c12b0 : decide (x10_2 ≤ a0) = false := decide_eq_false c12
       clear c12
       replace H := Option.bind_eq_some_iff.mp H
       obtain ⟨⟨t224, t225, t226, t227, t228, t229, t230, t231, t232⟩, A170, H⟩ := H
       replace H : (if x9_2 = true then (some (t224 == 1)) else (if t224 = 1 then (some false) else ((regain_Quorum.f a0).bind fun t236 => (if (l2.length : Int) ≥ t236 then (some true) else (some (t224 == 0)))))) = some r := H
       have A17 := Aside0.mk A170
       clear A170
       by_cases c18 : x9_2 = true
       ·
        subst c18
        have H1 : (some (t224 == 1)) = some r := by rw [if_pos rfl] at H; exact H
        clear H
        have H := H1
        clear H1
        obtain rfl := Option.some.inj H
        go_wp2_with (first | ((with_reducible refine gate_callee (f := 10) rfl ?_); refine goesL_ (some 62) rfl rfl Try.func10 (by kernel_rfl) rfl #[.int .i64 a0, .int .i64 a1, .slice A2 l2.length c2] rfl (by (try simp only [List.map_toArray, List.map_cons, List.map_nil]); first | done | rfl | (simp only [List.length_drop, List.length_take]; rfl)) ?_; (with_reducible refine (regain_Decide.calls a0 a1 _ _ l2 t224 t225 t226 t227 t228 t229 t230 t231 t232 _ ?side1 ?side2 A17.out).mono ?_); (case side1 => repeat (first | exact (Kd.C_below HR2.out HB.out) | (with_reducible refine Kd.C_alloc ?_ _) | (with_reducible refine Kd.C_drewN ?_ _) | (with_reducible refine Kd.C_drew ?_))); (case side2 => exact HC2.out); rintro e w19 ⟨v233, rfl, ho0, hb⟩; refine ⟨_, rfl, ?_⟩; have n0_ := Aside0.mk (Kd.R_lower ho0 (below_size (gw_ HB))); have n1_ := Aside0.mk (below_step (gw_ HB) hb); clear HB; have HO234 := n0_; have HB := n1_; clear n0_ n1_; (try clear hb); (try clear hb2); (try clear hk); (try clear hi); (try clear ho0)) | ((with_reducible refine gate_dst (N := 12) rfl ?_); (try (refine gate_guard (by rfl) ?_; dsimp only)); refine box_event ?hg (N := 12) ?hd (cs := #[.int .i64 0, .int .i64 0, .int .i64 0, .int .i64 0, .int .i64 0, .int .i64 0, .string (⟨#[]⟩ : ByteArray), .int .i64 0, .slice none 0 0]) (t := 37) ?hr ?_; (case hd => rfl); (case hg => rfl); (case hr => first | (go_simp; done) | (go_simp; rfl)); intro gb235 hg w20 hbox hb; have n0_ := Aside0.mk (Kd.R_below (Kd.rk HO234) hb); have s_ := step_size_ (gw_ HB) hb hg; have n1_ := Aside0.mk s_.1; have n2_ := Aside0.mk (hbox); have n3_ := Aside0.mk s_.2; clear s_; have n4_ := n3_; clear HO234; clear HB; have HO234 := n0_; have HB := n1_; have BK235 := n2_; have GW235 := n3_; have GE235 := n4_; clear n0_ n1_ n2_ n3_ n4_; clear hb hbox hg; obtain ⟨hcz21_0, hcz21_1, hcz21_2, hcz21_3, hcz21_4, hcz21_5, hcz21_6, hcz21_7, hcz21_8⟩ := blk_cells9 BK235.out; obtain ⟨hfz21_0, hfz21_1, hfz21_2, hfz21_3, hfz21_4, hfz21_5, hfz21_6, hfz21_7, hfz21_8⟩ := blk_frozens9 BK235.out; obtain ⟨Ao22, co22, eo22⟩ := Kd.R_slice HO234.out; subst eo22))
        go_ret
        exact ⟨by first | rfl | (simp [errW_none, errW_some] <;> rfl) | (simp [*, errW_none, errW_some] <;> rfl), gw_ HB⟩
       ·
        replace c18 := Bool.eq_false_iff.mpr c18
        subst c18
        have H1 : (if t224 = 1 then (some false) else ((regain_Quorum.f a0).bind fun t236 => (if (l2.length : Int) ≥ t236 then (some true) else (some (t224 == 0))))) = some r := by rw [if_neg (show ¬ (false = true) by decide)] at H; exact H
        clear H
        have H := H1
        clear H1
        by_cases c23 : t224 = 1
        ·
         rw [if_pos c23] at H
         have c23b0 : (t224 == 1) = true := beq_iff_eq.mpr c23
         have c23b1 : (t224 != 1) = false := bne_eq_false_iff_eq.mpr c23
         clear c23
         exact absurd (Option.some.inj H) (by rw [HRT.out]; decide)
        ·
         rw [if_neg c23] at H
         have c23b0 : (t224 == 1) = false := beq_eq_false_iff_ne.mpr c23
         have c23b1 : (t224 != 1) = true := bne_iff_ne.mpr c23
         replace H := Option.bind_eq_some_iff.mp H
         obtain ⟨t236, A240, H⟩ := H
         replace H : (if (l2.length : Int) ≥ t236 then (some true) else (some (t224 == 0))) = some r := H
         have A24 := Aside0.mk A240
         clear A240
         by_cases c25 : (l2.length : Int) ≥ t236
         ·
          rw [if_pos c25] at H
          have c25b0 : decide (t236 ≤ (l2.length : Int)) = true := decide_eq_true c25
          clear c25
          obtain rfl := Option.some.inj H
          go_wp2_with (first | ((with_reducible refine gate_callee (f := 10) rfl ?_); refine goesL_ (some 62) rfl rfl Try.func10 (by kernel_rfl) rfl #[.int .i64 a0, .int .i64 a1, .slice A2 l2.length c2] rfl (by (try simp only [List.map_toArray, List.map_cons, List.map_nil]); first | done | rfl | (simp only [List.length_drop, List.length_take]; rfl)) ?_; (with_reducible refine (regain_Decide.calls a0 a1 _ _ l2 t224 t225 t226 t227 t228 t229 t230 t231 t232 _ ?side1 ?side2 A17.out).mono ?_); (case side1 => repeat (first | exact (Kd.C_below HR2.out HB.out) | (with_reducible refine Kd.C_alloc ?_ _) | (with_reducible refine Kd.C_drewN ?_ _) | (with_reducible refine Kd.C_drew ?_))); (case side2 => exact HC2.out); rintro e w26 ⟨v233, rfl, ho0, hb⟩; refine ⟨_, rfl, ?_⟩; have n0_ := Aside0.mk (Kd.R_lower ho0 (below_size (gw_ HB))); have n1_ := Aside0.mk (below_step (gw_ HB) hb); clear HB; have HO234 := n0_; have HB := n1_; clear n0_ n1_; (try clear hb); (try clear hb2); (try clear hk); (try clear hi); (try clear ho0)) | ((with_reducible refine gate_dst (N := 12) rfl ?_); (try (refine gate_guard (by rfl) ?_; dsimp only)); refine box_event ?hg (N := 12) ?hd (cs := #[.int .i64 0, .int .i64 0, .int .i64 0, .int .i64 0, .int .i64 0, .int .i64 0, .string (⟨#[]⟩ : ByteArray), .int .i64 0, .slice none 0 0]) (t := 37) ?hr ?_; (case hd => rfl); (case hg => rfl); (case hr => first | (go_simp; done) | (go_simp; rfl)); intro gb235 hg w27 hbox hb; have n0_ := Aside0.mk (Kd.R_below (Kd.rk HO234) hb); have s_ := step_size_ (gw_ HB) hb hg; have n1_ := Aside0.mk s_.1; have n2_ := Aside0.mk (hbox); have n3_ := Aside0.mk s_.2; clear s_; have n4_ := n3_; clear HO234; clear HB; have HO234 := n0_; have HB := n1_; have BK235 := n2_; have GW235 := n3_; have GE235 := n4_; clear n0_ n1_ n2_ n3_ n4_; clear hb hbox hg; obtain ⟨hcz28_0, hcz28_1, hcz28_2, hcz28_3, hcz28_4, hcz28_5, hcz28_6, hcz28_7, hcz28_8⟩ := blk_cells9 BK235.out; obtain ⟨hfz28_0, hfz28_1, hfz28_2, hfz28_3, hfz28_4, hfz28_5, hfz28_6, hfz28_7, hfz28_8⟩ := blk_frozens9 BK235.out; obtain ⟨Ao29, co29, eo29⟩ := Kd.R_slice HO234.out; subst eo29) | (go_at_call 11; (with_reducible refine (regain_Quorum.calls a0 t236 _ A24.out).mono ?_); rintro e w30 ⟨rfl, hb⟩; have n0_ := Aside0.mk (Kd.R_below (by (with_reducible repeat (first | apply Kd.R_alloc | apply Kd.R_drewN | apply Kd.R_drew)); exact (Kd.R_mono (Kd.R_far9 (g := gb235) (Kd.R_types HO234.out BK235.out (by decide)) (fun _ hk => hk.2)) (fun _ h_ => h_.1))) hb); have n1_ := Aside0.mk (blk_below (g := gb235) (o := .cells #[.int .i64 t224, .int .i64 t225, .int .i64 t226, .int .i64 t227, .int .i64 t228, .int .i64 t229, .string t230, .int .i64 t231, .slice Ao29 t232.length co29] 37 (0, 0)) (by (with_reducible repeat (first | refine blk_drewN ?_ _ | refine blk_drew ?_ | refine blk_alloc ?_ _)); refine blk_put9 (cs := #[.int .i64 0, .int .i64 0, .int .i64 0, .int .i64 0, .int .i64 0, .int .i64 0, .string (⟨#[]⟩ : ByteArray), .int .i64 0, .slice none 0 0]) ?_ rfl; (with_reducible repeat (first | refine blk_drewN ?_ _ | refine blk_drew ?_ | refine blk_alloc ?_ _)); exact BK235.out) hb); have n2_ := Aside0.mk (below_step (gw_ HB) hb); clear HO234; clear BK235; clear HB; have HO234 := n0_; have BK235 := n1_; have HB := n2_; clear n0_ n1_ n2_; (try clear hb); (try clear hb2); (try clear hk); (try clear hi)))
          go_ret
          exact ⟨by first | rfl | (simp [errW_none, errW_some] <;> rfl) | (simp [*, errW_none, errW_some] <;> rfl), gw_ HB⟩
         ·
          rw [if_neg c25] at H
          have c25b0 : decide (t236 ≤ (l2.length : Int)) = false := decide_eq_false c25
          clear c25
          obtain rfl := Option.some.inj H
          go_wp2_with (first | ((with_reducible refine gate_callee (f := 10) rfl ?_); refine goesL_ (some 62) rfl rfl Try.func10 (by kernel_rfl) rfl #[.int .i64 a0, .int .i64 a1, .slice A2 l2.length c2] rfl (by (try simp only [List.map_toArray, List.map_cons, List.map_nil]); first | done | rfl | (simp only [List.length_drop, List.length_take]; rfl)) ?_; (with_reducible refine (regain_Decide.calls a0 a1 _ _ l2 t224 t225 t226 t227 t228 t229 t230 t231 t232 _ ?side1 ?side2 A17.out).mono ?_); (case side1 => repeat (first | exact (Kd.C_below HR2.out HB.out) | (with_reducible refine Kd.C_alloc ?_ _) | (with_reducible refine Kd.C_drewN ?_ _) | (with_reducible refine Kd.C_drew ?_))); (case side2 => exact HC2.out); rintro e w31 ⟨v233, rfl, ho0, hb⟩; refine ⟨_, rfl, ?_⟩; have n0_ := Aside0.mk (Kd.R_lower ho0 (below_size (gw_ HB))); have n1_ := Aside0.mk (below_step (gw_ HB) hb); clear HB; have HO234 := n0_; have HB := n1_; clear n0_ n1_; (try clear hb); (try clear hb2); (try clear hk); (try clear hi); (try clear ho0)) | ((with_reducible refine gate_dst (N := 12) rfl ?_); (try (refine gate_guard (by rfl) ?_; dsimp only)); refine box_event ?hg (N := 12) ?hd (cs := #[.int .i64 0, .int .i64 0, .int .i64 0, .int .i64 0, .int .i64 0, .int .i64 0, .string (⟨#[]⟩ : ByteArray), .int .i64 0, .slice none 0 0]) (t := 37) ?hr ?_; (case hd => rfl); (case hg => rfl); (case hr => first | (go_simp; done) | (go_simp; rfl)); intro gb235 hg w32 hbox hb; have n0_ := Aside0.mk (Kd.R_below (Kd.rk HO234) hb); have s_ := step_size_ (gw_ HB) hb hg; have n1_ := Aside0.mk s_.1; have n2_ := Aside0.mk (hbox); have n3_ := Aside0.mk s_.2; clear s_; have n4_ := n3_; clear HO234; clear HB; have HO234 := n0_; have HB := n1_; have BK235 := n2_; have GW235 := n3_; have GE235 := n4_; clear n0_ n1_ n2_ n3_ n4_; clear hb hbox hg; obtain ⟨hcz33_0, hcz33_1, hcz33_2, hcz33_3, hcz33_4, hcz33_5, hcz33_6, hcz33_7, hcz33_8⟩ := blk_cells9 BK235.out; obtain ⟨hfz33_0, hfz33_1, hfz33_2, hfz33_3, hfz33_4, hfz33_5, hfz33_6, hfz33_7, hfz33_8⟩ := blk_frozens9 BK235.out; obtain ⟨Ao34, co34, eo34⟩ := Kd.R_slice HO234.out; subst eo34) | (go_at_call 11; (with_reducible refine (regain_Quorum.calls a0 t236 _ A24.out).mono ?_); rintro e w35 ⟨rfl, hb⟩; have n0_ := Aside0.mk (Kd.R_below (by (with_reducible repeat (first | apply Kd.R_alloc | apply Kd.R_drewN | apply Kd.R_drew)); exact (Kd.R_mono (Kd.R_far9 (g := gb235) (Kd.R_types HO234.out BK235.out (by decide)) (fun _ hk => hk.2)) (fun _ h_ => h_.1))) hb); have n1_ := Aside0.mk (blk_below (g := gb235) (o := .cells #[.int .i64 t224, .int .i64 t225, .int .i64 t226, .int .i64 t227, .int .i64 t228, .int .i64 t229, .string t230, .int .i64 t231, .slice Ao34 t232.length co34] 37 (0, 0)) (by (with_reducible repeat (first | refine blk_drewN ?_ _ | refine blk_drew ?_ | refine blk_alloc ?_ _)); refine blk_put9 (cs := #[.int .i64 0, .int .i64 0, .int .i64 0, .int .i64 0, .int .i64 0, .int .i64 0, .string (⟨#[]⟩ : ByteArray), .int .i64 0, .slice none 0 0]) ?_ rfl; (with_reducible repeat (first | refine blk_drewN ?_ _ | refine blk_drew ?_ | refine blk_alloc ?_ _)); exact BK235.out) hb); have n2_ := Aside0.mk (below_step (gw_ HB) hb); clear HO234; clear BK235; clear HB; have HO234 := n0_; have BK235 := n1_; have HB := n2_; clear n0_ n1_ n2_; (try clear hb); (try clear hb2); (try clear hk); (try clear hi); obtain ⟨hcz36_0, hcz36_1, hcz36_2, hcz36_3, hcz36_4, hcz36_5, hcz36_6, hcz36_7, hcz36_8⟩ := blk_cells9 BK235.out; obtain ⟨hfz36_0, hfz36_1, hfz36_2, hfz36_3, hfz36_4, hfz36_5, hfz36_6, hfz36_7⟩ := blk_frozens8 BK235.out; have hfz36_8 := blk_frozen BK235.out 8))
          go_ret
          exact ⟨by first | rfl | (simp [errW_none, errW_some] <;> rfl) | (simp [*, errW_none, errW_some] <;> rfl), gw_ HB⟩

end Go.Proofs.Ytomgiaakhpemaaa.P
