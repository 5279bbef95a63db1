/- Plain Lean functions and their contracts over the translation, written by a program of this session (myprint.py, over the kit's print); no condition but each contract's own. -/
import Derived.Test.YtomgiaakhpemaaaPx0
import Derived.Test.YtomgiaakhpemaaaPx3
import Derived.Test.YtomgiaakhpemaaaPx4
import Derived.Test.YtomgiaakhpemaaaPx6
import Derived.Test.YtomgiaakhpemaaaPx7
import Derived.Test.YtomgiaakhpemaaaPx8
import Derived.Test.YtomgiaakhpemaaaPx10
import Derived.Test.YtomgiaakhpemaaaPx11
import Derived.Test.YtomgiaakhpemaaaPx13
import Derived.Test.YtomgiaakhpemaaaPx14
namespace Go.Proofs.Ytomgiaakhpemaaa.P
open Go.RowKit Go.Proofs.YtomgiaakhpemaaaW.PrintWords Go.Proofs.YtomgiaakhpemaaaW.PrintLast Go.Proofs.YtomgiaakhpemaaaW.PrintMore
attribute [local go_sem] max2_int min2_int max_two min_two max_three min_three max_four min_four   -- for this text's walks alone
set_option linter.unusedVariables false
set_option linter.unusedSimpArgs false

def regain_Fast.f (a0 : Int) (a1 : Int) (l2 : List (S35)) : Option (Bool) := (regain_collected.f a0 l2).bind fun t306 => ((regain_bound.f a0).bind fun t309 => (if (t306.length : Int) = t309 then ((regain_same.f a1 t306).bind fun t310 => (some t310)) else (some false)))
set_option maxHeartbeats 8000000 in
set_option maxRecDepth 100000 in
theorem regain_Fast.calls (a0 : Int) (a1 : Int) (A2 : Option Addr) (c2 : Nat) (l2 : List (S35)) (r : Bool) (w : World) (hr2 : Kd.C k35 w A2 l2.length l2) (hc2 : l2.length ≤ c2) (h : regain_Fast.f a0 a1 l2 = some r) :
  Calls Try.prog 15 #[.int .i64 a0, .int .i64 a1, .slice A2 l2.length c2] w fun e w' => e = .returned (.bool r) ∧ Below w.heap.size w w' := by
 have HR2 := Aside0.mk hr2
 have HC2 := Aside0.mk hc2
 clear hr2 hc2
 have HB := Aside0.mk (Below.refl w.heap.size w)
 have H : ((regain_collected.f a0 l2).bind fun t306 => ((regain_bound.f a0).bind fun t309 => (if (t306.length : Int) = t309 then ((regain_same.f a1 t306).bind fun t310 => (some t310)) else (some false)))) = some r := h
 clear h
 replace H := Option.bind_eq_some_iff.mp H
 obtain ⟨t306, A40, H⟩ := H
 replace H : ((regain_bound.f a0).bind fun t309 => (if (t306.length : Int) = t309 then ((regain_same.f a1 t306).bind fun t310 => (some t310)) else (some false))) = some r := H
 have A4 := Aside0.mk A40
 clear A40
 replace H := Option.bind_eq_some_iff.mp H
 obtain ⟨t309, A50, H⟩ := H
 replace H : (if (t306.length : Int) = t309 then ((regain_same.f a1 t306).bind fun t310 => (some t310)) else (some false)) = some r := H
 have A5 := Aside0.mk A50
 clear A50
 by_cases c6 : (t306.length : Int) = t309
 ·
  rw [if_pos c6] at H
  have c6b0 : ((t306.length : Int) == t309) = true := beq_iff_eq.mpr c6
  have c6b1 : ((t306.length : Int) != t309) = false := bne_eq_false_iff_eq.mpr c6
  clear c6
  replace H := Option.bind_eq_some_iff.mp H
  obtain ⟨t310, A70, H⟩ := H
  replace H : (some t310) = some r := H
  have A7 := Aside0.mk A70
  clear A70
  obtain rfl := Option.some.inj H
  go_enter Try.func15, Try.ntmps15
  go_wp2_with (first | ((with_reducible refine gate_callee (f := 19) rfl ?_); refine goesL_ (some 10) rfl rfl Try.func19 (by kernel_rfl) rfl #[.int .i64 a0, .slice A2 l2.length c2] rfl (by (try simp only [List.map_toArray, List.map_cons, List.map_nil]); first | done | rfl | (simp only [List.length_drop, List.length_take]; rfl)) ?_; (with_reducible refine (regain_collected.calls a0 (fun k_ => k_ < w.heap.size) _ _ l2 t306 _ ?side1 A4.out).mono ?_); (case side1 => exact Kd.V_mk HC2.out (Kd.F_below (Kd.C_F k35_heap HR2.out) (gw_ HB))); rintro e w8 ⟨v307, rfl, ho0, hb⟩; refine ⟨_, rfl, ?_⟩; have n0_ := Aside0.mk (Kd.N_lower (Kd.N_mono (ok' := fun k_ => True) ho0 (fun k_ hk_ => trivial)) (below_size (gw_ HB))); have n1_ := Aside0.mk (below_step (gw_ HB) hb); clear HB; have HO308 := n0_; have HB := n1_; clear n0_ n1_; (try clear hb); (try clear hb2); (try clear hk); (try clear hi); (try clear ho0); obtain ⟨Ao9, co9, eo9⟩ := Kd.N_slice HO308.out; subst eo9) | ((with_reducible refine gate_callee (f := 26) rfl ?_); refine goesL_ (some 14) rfl rfl Try.func26 (by kernel_rfl) rfl #[.int .i64 a0] rfl (by (try simp only [List.map_toArray, List.map_cons, List.map_nil]); first | done | rfl | (simp only [List.length_drop, List.length_take]; rfl)) ?_; (with_reducible refine (regain_bound.calls a0 t309 _ A5.out).mono ?_); rintro e w10 ⟨rfl, hb⟩; refine ⟨_, rfl, ?_⟩; have n0_ := Aside0.mk (Kd.N_below (Kd.nk HO308) hb); have n1_ := Aside0.mk (below_step (gw_ HB) hb); clear HO308; clear HB; have HO308 := n0_; have HB := n1_; clear n0_ n1_; (try clear hb); (try clear hb2); (try clear hk); (try clear hi)) | (go_at_call 32; (with_reducible refine (regain_same.calls a1 _ _ t306 t310 _ ?side1 ?side2 A7.out).mono ?_); (case side1 => repeat (first | exact (Kd.N_reads' HO308.out).2.2 | (with_reducible refine Kd.C_alloc ?_ _) | (with_reducible refine Kd.C_drewN ?_ _) | (with_reducible refine Kd.C_drew ?_))); (case side2 => exact (Kd.N_reads' HO308.out).2.1); rintro e w11 ⟨rfl, hb⟩; have n0_ := Aside0.mk (Kd.N_below (Kd.nk HO308) hb); have n1_ := Aside0.mk (below_step (gw_ HB) hb); clear HO308; clear HB; have HO308 := n0_; have HB := n1_; clear n0_ n1_; (try clear hb); (try clear hb2); (try clear hk); (try clear hi)))
  go_ret
  exact ⟨by first | rfl | (simp [errW_none, errW_some] <;> rfl) | (simp [*, errW_none, errW_some] <;> rfl), gw_ HB⟩
 ·
  rw [if_neg c6] at H
  have c6b0 : ((t306.length : Int) == t309) = false := beq_eq_false_iff_ne.mpr c6
  have c6b1 : ((t306.length : Int) != t309) = true := bne_iff_ne.mpr c6
  obtain rfl := Option.some.inj H
  go_enter Try.func15, Try.ntmps15
  go_wp2_with (first | ((with_reducible refine gate_callee (f := 19) rfl ?_); refine goesL_ (some 10) rfl rfl Try.func19 (by kernel_rfl) rfl #[.int .i64 a0, .slice A2 l2.length c2] rfl (by (try simp only [List.map_toArray, List.map_cons, List.map_nil]); first | done | rfl | (simp only [List.length_drop, List.length_take]; rfl)) ?_; (with_reducible refine (regain_collected.calls a0 (fun k_ => k_ < w.heap.size) _ _ l2 t306 _ ?side1 A4.out).mono ?_); (case side1 => exact Kd.V_mk HC2.out (Kd.F_below (Kd.C_F k35_heap HR2.out) (gw_ HB))); rintro e w12 ⟨v307, rfl, ho0, hb⟩; refine ⟨_, rfl, ?_⟩; have n0_ := Aside0.mk (Kd.N_lower (Kd.N_mono (ok' := fun k_ => True) ho0 (fun k_ hk_ => trivial)) (below_size (gw_ HB))); have n1_ := Aside0.mk (below_step (gw_ HB) hb); clear HB; have HO308 := n0_; have HB := n1_; clear n0_ n1_; (try clear hb); (try clear hb2); (try clear hk); (try clear hi); (try clear ho0); obtain ⟨Ao13, co13, eo13⟩ := Kd.N_slice HO308.out; subst eo13) | ((with_reducible refine gate_callee (f := 26) rfl ?_); refine goesL_ (some 14) rfl rfl Try.func26 (by kernel_rfl) rfl #[.int .i64 a0] rfl (by (try simp only [List.map_toArray, List.map_cons, List.map_nil]); first | done | rfl | (simp only [List.length_drop, List.length_take]; rfl)) ?_; (with_reducible refine (regain_bound.calls a0 t309 _ A5.out).mono ?_); rintro e w14 ⟨rfl, hb⟩; refine ⟨_, rfl, ?_⟩; have n0_ := Aside0.mk (Kd.N_below (Kd.nk HO308) hb); have n1_ := Aside0.mk (below_step (gw_ HB) hb); clear HO308; clear HB; have HO308 := n0_; have HB := n1_; clear n0_ n1_; (try clear hb); (try clear hb2); (try clear hk); (try clear hi)))
  go_ret
  exact ⟨by first | rfl | (simp [errW_none, errW_some] <;> rfl) | (simp [*, errW_none, errW_some] <;> rfl), gw_ HB⟩

def colloquyref10_Fast.f (k : Nat) (a0 : Int) (a1 : Int) (l2 : List (S35)) : Option (Bool) := (colloquyref10_Count.f k a0 l2).bind fun t311 => ((colloquyref10_first.f k a1 t311).bind fun t314 => ((colloquyref10_bound.f a0).bind fun t315 => (if (t311.length : Int) = t315 then (some t314) else (some false))))
set_option maxHeartbeats 8000000 in
set_option maxRecDepth 100000 in
theorem colloquyref10_Fast.calls (k : Nat) (a0 : Int) (a1 : Int) (A2 : Option Addr) (c2 : Nat) (l2 : List (S35)) (r : Bool) (w : World) (hr2 : Kd.C k35 w A2 l2.length l2) (hc2 : l2.length ≤ c2) (h : colloquyref10_Fast.f k a0 a1 l2 = some r) :
  Calls Try.prog 16 #[.int .i64 a0, .int .i64 a1, .slice A2 l2.length c2] w fun e w' => e = .returned (.bool r) ∧ Below w.heap.size w w' := by
 have HR2 := Aside0.mk hr2
 have HC2 := Aside0.mk hc2
 clear hr2 hc2
 have HB := Aside0.mk (Below.refl w.heap.size w)
 have H : ((colloquyref10_Count.f k a0 l2).bind fun t311 => ((colloquyref10_first.f k a1 t311).bind fun t314 => ((colloquyref10_bound.f a0).bind fun t315 => (if (t311.length : Int) = t315 then (some t314) else (some false))))) = some r := h
 clear h
 replace H := Option.bind_eq_some_iff.mp H
 obtain ⟨t311, A40, H⟩ := H
 replace H : ((colloquyref10_first.f k a1 t311).bind fun t314 => ((colloquyref10_bound.f a0).bind fun t315 => (if (t311.length : Int) = t315 then (some t314) else (some false)))) = some r := H
 have A4 := Aside0.mk A40
 clear A40
 replace H := Option.bind_eq_some_iff.mp H
 obtain ⟨t314, A50, H⟩ := H
 replace H : ((colloquyref10_bound.f a0).bind fun t315 => (if (t311.length : Int) = t315 then (some t314) else (some false))) = some r := H
 have A5 := Aside0.mk A50
 clear A50
 replace H := Option.bind_eq_some_iff.mp H
 obtain ⟨t315, A60, H⟩ := H
 replace H : (if (t311.length : Int) = t315 then (some t314) else (some false)) = some r := H
 have A6 := Aside0.mk A60
 clear A60
 by_cases c7 : (t311.length : Int) = t315
 ·
  rw [if_pos c7] at H
  have c7b0 : ((t311.length : Int) == t315) = true := beq_iff_eq.mpr c7
  have c7b1 : ((t311.length : Int) != t315) = false := bne_eq_false_iff_eq.mpr c7
  clear c7
  obtain rfl := Option.some.inj H
  go_enter Try.func16, Try.ntmps16
  go_wp2_with (first | ((with_reducible refine gate_callee (f := 27) rfl ?_); refine goesL_ (some 11) rfl rfl Try.func27 (by kernel_rfl) rfl #[.int .i64 a0, .slice A2 l2.length c2] rfl (by (try simp only [List.map_toArray, List.map_cons, List.map_nil]); first | done | rfl | (simp only [List.length_drop, List.length_take]; rfl)) ?_; (with_reducible refine (colloquyref10_Count.calls k a0 (fun k_ => k_ < w.heap.size) _ _ l2 t311 _ ?side1 A4.out).mono ?_); (case side1 => exact Kd.V_mk HC2.out (Kd.F_below (Kd.C_F k35_heap HR2.out) (gw_ HB))); rintro e w8 ⟨v312, rfl, ho0, hb⟩; refine ⟨_, rfl, ?_⟩; have n0_ := Aside0.mk (Kd.N_lower (Kd.N_mono (ok' := fun k_ => True) ho0 (fun k_ hk_ => trivial)) (below_size (gw_ HB))); have n1_ := Aside0.mk (below_step (gw_ HB) hb); clear HB; have HO313 := n0_; have HB := n1_; clear n0_ n1_; (try clear hb); (try clear hb2); (try clear hk); (try clear hi); (try clear ho0); obtain ⟨Ao9, co9, eo9⟩ := Kd.N_slice HO313.out; subst eo9) | ((with_reducible refine gate_callee (f := 30) rfl ?_); refine goesL_ (some 14) rfl rfl Try.func30 (by kernel_rfl) rfl #[.int .i64 a1, .slice Ao9 t311.length co9] rfl (by (try simp only [List.map_toArray, List.map_cons, List.map_nil]); first | done | rfl | (simp only [List.length_drop, List.length_take]; rfl)) ?_; (with_reducible refine (colloquyref10_first.calls k a1 _ _ t311 t314 _ ?side1 ?side2 A5.out).mono ?_); (case side1 => repeat (first | exact (Kd.N_reads' HO313.out).2.2 | (with_reducible refine Kd.C_alloc ?_ _) | (with_reducible refine Kd.C_drewN ?_ _) | (with_reducible refine Kd.C_drew ?_))); (case side2 => exact (Kd.N_reads' HO313.out).2.1); rintro e w10 ⟨rfl, hb⟩; refine ⟨_, rfl, ?_⟩; have n0_ := Aside0.mk (Kd.N_below (Kd.nk HO313) hb); have n1_ := Aside0.mk (below_step (gw_ HB) hb); clear HO313; clear HB; have HO313 := n0_; have HB := n1_; clear n0_ n1_; (try clear hb); (try clear hb2); (try clear hk); (try clear hi)) | ((with_reducible refine gate_callee (f := 31) rfl ?_); refine goesL_ (some 18) rfl rfl Try.func31 (by kernel_rfl) rfl #[.int .i64 a0] rfl (by (try simp only [List.map_toArray, List.map_cons, List.map_nil]); first | done | rfl | (simp only [List.length_drop, List.length_take]; rfl)) ?_; (with_reducible refine (colloquyref10_bound.calls a0 t315 _ A6.out).mono ?_); rintro e w' ⟨rfl, ⟨nd, rfl⟩⟩; refine ⟨_, rfl, ?_⟩))
  go_ret
  exact ⟨by first | rfl | (simp [errW_none, errW_some] <;> rfl) | (simp [*, errW_none, errW_some] <;> rfl), gw_ HB⟩
 ·
  rw [if_neg c7] at H
  have c7b0 : ((t311.length : Int) == t315) = false := beq_eq_false_iff_ne.mpr c7
  have c7b1 : ((t311.length : Int) != t315) = true := bne_iff_ne.mpr c7
  obtain rfl := Option.some.inj H
  go_enter Try.func16, Try.ntmps16
  go_wp2_with (first | ((with_reducible refine gate_callee (f := 27) rfl ?_); refine goesL_ (some 11) rfl rfl Try.func27 (by kernel_rfl) rfl #[.int .i64 a0, .slice A2 l2.length c2] rfl (by (try simp only [List.map_toArray, List.map_cons, List.map_nil]); first | done | rfl | (simp only [List.length_drop, List.length_take]; rfl)) ?_; (with_reducible refine (colloquyref10_Count.calls k a0 (fun k_ => k_ < w.heap.size) _ _ l2 t311 _ ?side1 A4.out).mono ?_); (case side1 => exact Kd.V_mk HC2.out (Kd.F_below (Kd.C_F k35_heap HR2.out) (gw_ HB))); rintro e w11 ⟨v312, rfl, ho0, hb⟩; refine ⟨_, rfl, ?_⟩; have n0_ := Aside0.mk (Kd.N_lower (Kd.N_mono (ok' := fun k_ => True) ho0 (fun k_ hk_ => trivial)) (below_size (gw_ HB))); have n1_ := Aside0.mk (below_step (gw_ HB) hb); clear HB; have HO313 := n0_; have HB := n1_; clear n0_ n1_; (try clear hb); (try clear hb2); (try clear hk); (try clear hi); (try clear ho0); obtain ⟨Ao12, co12, eo12⟩ := Kd.N_slice HO313.out; subst eo12) | ((with_reducible refine gate_callee (f := 30) rfl ?_); refine goesL_ (some 14) rfl rfl Try.func30 (by kernel_rfl) rfl #[.int .i64 a1, .slice Ao12 t311.length co12] rfl (by (try simp only [List.map_toArray, List.map_cons, List.map_nil]); first | done | rfl | (simp only [List.length_drop, List.length_take]; rfl)) ?_; (with_reducible refine (colloquyref10_first.calls k a1 _ _ t311 t314 _ ?side1 ?side2 A5.out).mono ?_); (case side1 => repeat (first | exact (Kd.N_reads' HO313.out).2.2 | (with_reducible refine Kd.C_alloc ?_ _) | (with_reducible refine Kd.C_drewN ?_ _) | (with_reducible refine Kd.C_drew ?_))); (case side2 => exact (Kd.N_reads' HO313.out).2.1); rintro e w13 ⟨rfl, hb⟩; refine ⟨_, rfl, ?_⟩; have n0_ := Aside0.mk (Kd.N_below (Kd.nk HO313) hb); have n1_ := Aside0.mk (below_step (gw_ HB) hb); clear HO313; clear HB; have HO313 := n0_; have HB := n1_; clear n0_ n1_; (try clear hb); (try clear hb2); (try clear hk); (try clear hi)) | ((with_reducible refine gate_callee (f := 31) rfl ?_); refine goesL_ (some 18) rfl rfl Try.func31 (by kernel_rfl) rfl #[.int .i64 a0] rfl (by (try simp only [List.map_toArray, List.map_cons, List.map_nil]); first | done | rfl | (simp only [List.length_drop, List.length_take]; rfl)) ?_; (with_reducible refine (colloquyref10_bound.calls a0 t315 _ A6.out).mono ?_); rintro e w' ⟨rfl, ⟨nd, rfl⟩⟩; refine ⟨_, rfl, ?_⟩))
  go_ret
  exact ⟨by first | rfl | (simp [errW_none, errW_some] <;> rfl) | (simp [*, errW_none, errW_some] <;> rfl), gw_ HB⟩

def colloquylaw10_RegainDecides.j0 : Nat → Int → Int → List (S35) → Bool → Bool → Option (Bool)
 | 0, _, _, _, _, _ => none
 | k + 1, x0, x1, x2, x7, x18 => if x18 = true then (some x7) else ((regain_Decide.f x0 x1 x2).bind fun bt318 => ((colloquyref10_Decide.f k x0 x1 x2).bind fun bt329 => ((colloquyref10_Same.f k bt318.1 bt318.2.1 bt318.2.2.1 bt318.2.2.2.1 bt318.2.2.2.2.1 bt318.2.2.2.2.2.1 bt318.2.2.2.2.2.2.1 bt318.2.2.2.2.2.2.2.1 bt318.2.2.2.2.2.2.2.2 bt329.1 bt329.2.1 bt329.2.2.1 bt329.2.2.2.1 bt329.2.2.2.2.1 bt329.2.2.2.2.2.1 bt329.2.2.2.2.2.2.1 bt329.2.2.2.2.2.2.2.1 bt329.2.2.2.2.2.2.2.2).bind fun t340 => (if t340 = true then ((regain_Quorum.f x0).bind fun t341 => ((colloquyref10_Quorum.f x0).bind fun t342 => (if t341 = t342 then ((regain_Fast.f x0 x1 x2).bind fun t343 => ((colloquyref10_Fast.f k x0 x1 x2).bind fun t344 => (some (t343 == t344)))) else (some false)))) else (some false)))))
def colloquylaw10_RegainDecides.f (k : Nat) (a0 : Int) (a1 : Int) (l2 : List (S35)) : Option (Bool) := (colloquylaw10_awake.f).bind fun t316 => ((colloquylaw10_few.f k l2).bind fun t317 => (if t316 = true then (colloquylaw10_RegainDecides.j0 k a0 a1 l2 t316 (!t317)) else (colloquylaw10_RegainDecides.j0 k a0 a1 l2 t316 true)))
set_option maxHeartbeats 8000000 in
set_option maxRecDepth 100000 in
theorem colloquylaw10_RegainDecides.calls (k : Nat) (a0 : Int) (a1 : Int) (A2 : Option Addr) (c2 : Nat) (l2 : List (S35)) (r : Bool) (w : World) (hr2 : Kd.C k35 w A2 l2.length l2) (hc2 : l2.length ≤ c2) (hrt : r = true) (h : colloquylaw10_RegainDecides.f k a0 a1 l2 = some r) :
  Calls Try.prog 5 #[.int .i64 a0, .int .i64 a1, .slice A2 l2.length c2] w fun e w' => e = .returned (.bool r) ∧ Below w.heap.size w w' := by
 have HRT := Aside0.mk hrt
 clear hrt
 have HR2 := Aside0.mk hr2
 have HC2 := Aside0.mk hc2
 clear hr2 hc2
 have HB := Aside0.mk (Below.refl w.heap.size w)
 have H : ((colloquylaw10_awake.f).bind fun t316 => ((colloquylaw10_few.f k l2).bind fun t317 => (if t316 = true then (colloquylaw10_RegainDecides.j0 k a0 a1 l2 t316 (!t317)) else (colloquylaw10_RegainDecides.j0 k a0 a1 l2 t316 true)))) = some r := h
 clear h
 replace H := Option.bind_eq_some_iff.mp H
 obtain ⟨t316, A40, H⟩ := H
 replace H : ((colloquylaw10_few.f k l2).bind fun t317 => (if t316 = true then (colloquylaw10_RegainDecides.j0 k a0 a1 l2 t316 (!t317)) else (colloquylaw10_RegainDecides.j0 k a0 a1 l2 t316 true))) = some r := H
 have A4 := Aside0.mk A40
 clear A40
 replace H := Option.bind_eq_some_iff.mp H
 obtain ⟨t317, A50, H⟩ := H
 replace H : (if t316 = true then (colloquylaw10_RegainDecides.j0 k a0 a1 l2 t316 (!t317)) else (colloquylaw10_RegainDecides.j0 k a0 a1 l2 t316 true)) = some r := H
 have A5 := Aside0.mk A50
 clear A50
 have HC6 := Aside0.mk H
 clear H
 go_enter Try.func5, Try.ntmps5
 go_upto_region 3 with (first | ((with_reducible refine gate_callee (f := 8) rfl ?_); refine goesL_ (some 10) rfl rfl Try.func8 (by kernel_rfl) rfl #[] rfl (by (try simp only [List.map_toArray, List.map_cons, List.map_nil]); first | done | rfl | (simp only [List.length_drop, List.length_take]; rfl)) ?_; (with_reducible refine (colloquylaw10_awake.calls  t316 _ A4.out).mono ?_); rintro e w7 ⟨rfl, hb⟩; refine ⟨_, rfl, ?_⟩; have n0_ := Aside0.mk (below_step (gw_ HB) hb); clear HB; have HB := n0_; clear n0_; (try clear hb); (try clear hb2); (try clear hk); (try clear hi)) | ((with_reducible refine gate_callee (f := 9) rfl ?_); refine goesL_ (some 12) rfl rfl Try.func9 (by kernel_rfl) rfl #[.slice A2 l2.length c2] rfl (by (try simp only [List.map_toArray, List.map_cons, List.map_nil]); first | done | rfl | (simp only [List.length_drop, List.length_take]; rfl)) ?_; (with_reducible refine (colloquylaw10_few.calls k _ _ l2 t317 _ ?side1 ?side2 A5.out).mono ?_); (case side1 => repeat (first | exact (Kd.C_below HR2.out HB.out) | (with_reducible refine Kd.C_alloc ?_ _) | (with_reducible refine Kd.C_drewN ?_ _) | (with_reducible refine Kd.C_drew ?_))); (case side2 => exact HC2.out); rintro e w' ⟨rfl, ⟨nd, rfl⟩⟩; refine ⟨_, rfl, ?_⟩))
 (try simp only [Act.put, List.setIfInBounds_toArray, List.set_cons_zero, List.set_cons_succ])
 go_cut [18] (fun v18 wc => ∃ (kq : Nat) (x18_5 : Bool), v18 = .bool x18_5 ∧ Aside0 (colloquylaw10_RegainDecides.j0 kq a0 a1 l2 t316 x18_5 = some r) ∧ Aside0 (kq ≤ k) ∧ Aside0 (Below w.heap.size w wc))
 case first =>
  have H := HC6.out
  clear HC6
  by_cases c8 : t316 = true
  ·
   subst c8
   have H1 : (colloquylaw10_RegainDecides.j0 k a0 a1 l2 true (!t317)) = some r := by rw [if_pos rfl] at H; exact H
   clear H
   have H := H1
   clear H1
   have H' := Aside0.mk H
   clear H
   go_wp2
   go_meet
   case rel => exact ⟨_, (!t317), (by first | rfl | (simp; done) | (simp [*]; done)), H', ⟨by first | omega | exact Nat.le_refl _⟩, ⟨gw_ HB⟩⟩
  ·
   replace c8 := Bool.eq_false_iff.mpr c8
   subst c8
   have H1 : (colloquylaw10_RegainDecides.j0 k a0 a1 l2 false true) = some r := by rw [if_neg (show ¬ (false = true) by decide)] at H; exact H
   clear H
   have H := H1
   clear H1
   have H' := Aside0.mk H
   clear H
   go_wp2
   go_meet
   case rel => exact ⟨_, (true), (by first | rfl | (simp; done) | (simp [*]; done)), H', ⟨by first | omega | exact Nat.le_refl _⟩, ⟨gw_ HB⟩⟩
 case rest =>
  clear HC6
  try clear c2
  try clear p2
  try clear c5
  try clear c8
  obtain ⟨kq, x18_5, rfl, HA, HJ5, HB⟩ := hcut
  cases kq with
  | zero => exact absurd HA.out (by simp [colloquylaw10_RegainDecides.j0])
  | succ kj5 =>
   have H := HA.out
   clear HA
   simp only [colloquylaw10_RegainDecides.j0] at H
   by_cases c9 : x18_5 = true
   ·
    subst c9
    have H1 : (some t316) = some r := by rw [if_pos rfl] at H; exact H
    clear H
    have H := H1
    clear H1
    obtain rfl := Option.some.inj H
    go_wp2
    go_ret
    exact ⟨by first | rfl | (simp [errW_none, errW_some] <;> rfl) | (simp [*, errW_none, errW_some] <;> rfl), gw_ HB⟩
   ·
    replace c9 := Bool.eq_false_iff.mpr c9
    subst c9
    have H1 : ((regain_Decide.f a0 a1 l2).bind fun bt318 => ((colloquyref10_Decide.f kj5 a0 a1 l2).bind fun bt329 => ((colloquyref10_Same.f kj5 bt318.1 bt318.2.1 bt318.2.2.1 bt318.2.2.2.1 bt318.2.2.2.2.1 bt318.2.2.2.2.2.1 bt318.2.2.2.2.2.2.1 bt318.2.2.2.2.2.2.2.1 bt318.2.2.2.2.2.2.2.2 bt329.1 bt329.2.1 bt329.2.2.1 bt329.2.2.2.1 bt329.2.2.2.2.1 bt329.2.2.2.2.2.1 bt329.2.2.2.2.2.2.1 bt329.2.2.2.2.2.2.2.1 bt329.2.2.2.2.2.2.2.2).bind fun t340 => (if t340 = true then ((regain_Quorum.f a0).bind fun t341 => ((colloquyref10_Quorum.f a0).bind fun t342 => (if t341 = t342 then ((regain_Fast.f a0 a1 l2).bind fun t343 => ((colloquyref10_Fast.f kj5 a0 a1 l2).bind fun t344 => (some (t343 == t344)))) else (some false)))) else (some false))))) = some r := by rw [if_neg (show ¬ (false = true) by decide)] at H; exact H
    clear H
    have H := H1
    clear H1
    replace H := Option.bind_eq_some_iff.mp H
    obtain ⟨⟨t318, t319, t320, t321, t322, t323, t324, t325, t326⟩, A100, H⟩ := H
    replace H : ((colloquyref10_Decide.f kj5 a0 a1 l2).bind fun bt329 => ((colloquyref10_Same.f kj5 t318 t319 t320 t321 t322 t323 t324 t325 t326 bt329.1 bt329.2.1 bt329.2.2.1 bt329.2.2.2.1 bt329.2.2.2.2.1 bt329.2.2.2.2.2.1 bt329.2.2.2.2.2.2.1 bt329.2.2.2.2.2.2.2.1 bt329.2.2.2.2.2.2.2.2).bind fun t340 => (if t340 = true then ((regain_Quorum.f a0).bind fun t341 => ((colloquyref10_Quorum.f a0).bind fun t342 => (if t341 = t342 then ((regain_Fast.f a0 a1 l2).bind fun t343 => ((colloquyref10_Fast.f kj5 a0 a1 l2).bind fun t344 => (some (t343 == t344)))) else (some false)))) else (some false)))) = some r := H
    have A10 := Aside0.mk A100
    clear A100
    replace H := Option.bind_eq_some_iff.mp H
    obtain ⟨⟨t329, t330, t331, t332, t333, t334, t335, t336, t337⟩, A110, H⟩ := H
    replace H : ((colloquyref10_Same.f kj5 t318 t319 t320 t321 t322 t323 t324 t325 t326 t329 t330 t331 t332 t333 t334 t335 t336 t337).bind fun t340 => (if t340 = true then ((regain_Quorum.f a0).bind fun t341 => ((colloquyref10_Quorum.f a0).bind fun t342 => (if t341 = t342 then ((regain_Fast.f a0 a1 l2).bind fun t343 => ((colloquyref10_Fast.f kj5 a0 a1 l2).bind fun t344 => (some (t343 == t344)))) else (some false)))) else (some false))) = some r := H
    have A11 := Aside0.mk A110
    clear A110
    replace H := Option.bind_eq_some_iff.mp H
    obtain ⟨t340, A120, H⟩ := H
    replace H : (if t340 = true then ((regain_Quorum.f a0).bind fun t341 => ((colloquyref10_Quorum.f a0).bind fun t342 => (if t341 = t342 then ((regain_Fast.f a0 a1 l2).bind fun t343 => ((colloquyref10_Fast.f kj5 a0 a1 l2).bind fun t344 => (some (t343 == t344)))) else (some false)))) else (some false)) = some r := H
    have A12 := Aside0.mk A120
    clear A120
    by_cases c13 : t340 = true
    ·
     subst c13
     have H1 : ((regain_Quorum.f a0).bind fun t341 => ((colloquyref10_Quorum.f a0).bind fun t342 => (if t341 = t342 then ((regain_Fast.f a0 a1 l2).bind fun t343 => ((colloquyref10_Fast.f kj5 a0 a1 l2).bind fun t344 => (some (t343 == t344)))) else (some false)))) = some r := by rw [if_pos rfl] at H; exact H
     clear H
     have H := H1
     clear H1
     replace H := Option.bind_eq_some_iff.mp H
     obtain ⟨t341, A140, H⟩ := H
     replace H : ((colloquyref10_Quorum.f a0).bind fun t342 => (if t341 = t342 then ((regain_Fast.f a0 a1 l2).bind fun t343 => ((colloquyref10_Fast.f kj5 a0 a1 l2).bind fun t344 => (some (t343 == t344)))) else (some false))) = some r := H
     have A14 := Aside0.mk A140
     clear A140
     replace H := Option.bind_eq_some_iff.mp H
     obtain ⟨t342, A150, H⟩ := H
     replace H : (if t341 = t342 then ((regain_Fast.f a0 a1 l2).bind fun t343 => ((colloquyref10_Fast.f kj5 a0 a1 l2).bind fun t344 => (some (t343 == t344)))) else (some false)) = some r := H
     have A15 := Aside0.mk A150
     clear A150
     by_cases c16 : t341 = t342
     ·
      rw [if_pos c16] at H
      have c16b0 : (t341 == t342) = true := beq_iff_eq.mpr c16
      have c16b1 : (t341 != t342) = false := bne_eq_false_iff_eq.mpr c16
      clear c16
      replace H := Option.bind_eq_some_iff.mp H
      obtain ⟨t343, A170, H⟩ := H
      replace H : ((colloquyref10_Fast.f kj5 a0 a1 l2).bind fun t344 => (some (t343 == t344))) = some r := H
      have A17 := Aside0.mk A170
      clear A170
      replace H := Option.bind_eq_some_iff.mp H
      obtain ⟨t344, A180, H⟩ := H
      replace H : (some (t343 == t344)) = some r := H
      have A18 := Aside0.mk A180
      clear A180
      obtain rfl := Option.some.inj H
      go_wp2_with (first | ((with_reducible refine gate_callee (f := 10) rfl ?_); refine goesL_ (some 23) rfl rfl Try.func10 (by kernel_rfl) rfl #[.int .i64 a0, .int .i64 a1, .slice A2 l2.length c2] rfl (by (try simp only [List.map_toArray, List.map_cons, List.map_nil]); first | done | rfl | (simp only [List.length_drop, List.length_take]; rfl)) ?_; (with_reducible refine (regain_Decide.calls a0 a1 _ _ l2 t318 t319 t320 t321 t322 t323 t324 t325 t326 _ ?side1 ?side2 A10.out).mono ?_); (case side1 => repeat (first | exact (Kd.C_below HR2.out HB.out) | (with_reducible refine Kd.C_alloc ?_ _) | (with_reducible refine Kd.C_drewN ?_ _) | (with_reducible refine Kd.C_drew ?_))); (case side2 => exact HC2.out); rintro e w19 ⟨v327, rfl, ho0, hb⟩; refine ⟨_, rfl, ?_⟩; have n0_ := Aside0.mk (Kd.R_lower ho0 (below_size (gw_ HB))); have n1_ := Aside0.mk (below_step (gw_ HB) hb); clear HB; have HO328 := n0_; have HB := n1_; clear n0_ n1_; (try clear hb); (try clear hb2); (try clear hk); (try clear hi); (try clear ho0)) | ((with_reducible refine gate_callee (f := 13) rfl ?_); refine goesL_ (some 27) rfl rfl Try.func13 (by kernel_rfl) rfl #[.int .i64 a0, .int .i64 a1, .slice A2 l2.length c2] rfl (by (try simp only [List.map_toArray, List.map_cons, List.map_nil]); first | done | rfl | (simp only [List.length_drop, List.length_take]; rfl)) ?_; (with_reducible refine (colloquyref10_Decide.calls kj5 a0 a1 (fun k_ => k_ < w.heap.size) _ _ l2 t329 t330 t331 t332 t333 t334 t335 t336 t337 _ ?side1 A11.out).mono ?_); (case side1 => exact Kd.V_mk HC2.out (Kd.F_below (Kd.C_F k35_heap HR2.out) (gw_ HB))); rintro e w20 ⟨v338, rfl, ho0, hb⟩; refine ⟨_, rfl, ?_⟩; have n0_ := Aside0.mk (Kd.R_below (Kd.rk HO328) hb); have n1_ := Aside0.mk (Kd.V_lower (Kd.V_mono (ok' := fun k_ => some k_ ≠ (v327 : Value).ownBlock) ho0 (fun k_ hk_ => Or.elim hk_ (fun hs_ => fun e_ => Nat.not_le.2 hs_ (Kd.R_base HO328.out k_ e_.symm)) (fun hn_ => (Kd.fresh' (Kd.R_lt (Kd.rk HO328)) k_ hn_)))) (below_size (gw_ HB))); have n2_ := Aside0.mk (below_step (gw_ HB) hb); clear HO328; clear HB; have HO328 := n0_; have HO339 := n1_; have HB := n2_; clear n0_ n1_ n2_; (try clear hb); (try clear hb2); (try clear hk); (try clear hi); (try clear ho0); obtain ⟨Ao21, co21, eo21⟩ := Kd.R_slice HO328.out; subst eo21; obtain ⟨Ao22, co22, eo22⟩ := Kd.V_slice HO339.out; subst eo22) | ((with_reducible refine gate_callee (f := 12) rfl ?_); refine goesL_ (some 28) rfl rfl Try.func12 (by kernel_rfl) rfl #[.agg #[.int .i64 t318, .int .i64 t319, .int .i64 t320, .int .i64 t321, .int .i64 t322, .int .i64 t323, .string t324, .int .i64 t325, .slice Ao21 t326.length co21], .agg #[.int .i64 t329, .int .i64 t330, .int .i64 t331, .int .i64 t332, .int .i64 t333, .int .i64 t334, .string t335, .int .i64 t336, .slice Ao22 t337.length co22]] rfl (by (try simp only [List.map_toArray, List.map_cons, List.map_nil]); first | done | rfl | (simp only [List.length_drop, List.length_take]; rfl)) ?_; (with_reducible refine (colloquyref10_Same.calls kj5 t318 t319 t320 t321 t322 t323 t324 t325 _ _ t326 t329 t330 t331 t332 t333 t334 t335 t336 _ _ t337 true _ ?side1 ?side2 ?side3 ?side4 A12.out).mono ?_); (case side1 => repeat (first | exact (Kd.R_reads' HO328.out).2.2 | (with_reducible refine Kd.C_alloc ?_ _) | (with_reducible refine Kd.C_drewN ?_ _) | (with_reducible refine Kd.C_drew ?_))); (case side2 => exact (Kd.R_reads' HO328.out).2.1); (case side3 => repeat (first | exact (Kd.V_reads' HO339.out).2.2 | (with_reducible refine Kd.C_alloc ?_ _) | (with_reducible refine Kd.C_drewN ?_ _) | (with_reducible refine Kd.C_drew ?_))); (case side4 => exact (Kd.V_reads' HO339.out).2.1); rintro e w23 ⟨rfl, hb⟩; refine ⟨_, rfl, ?_⟩; have n0_ := Aside0.mk (Kd.R_below (Kd.rk HO328) hb); have n1_ := Aside0.mk (Kd.V_below (Kd.vk HO339) hb); have n2_ := Aside0.mk (below_step (gw_ HB) hb); clear HO328; clear HO339; clear HB; have HO328 := n0_; have HO339 := n1_; have HB := n2_; clear n0_ n1_ n2_; (try clear hb); (try clear hb2); (try clear hk); (try clear hi)) | (go_at_call 11; (with_reducible refine (regain_Quorum.calls a0 t341 _ A14.out).mono ?_); rintro e w24 ⟨rfl, hb⟩; have n0_ := Aside0.mk (Kd.R_below (Kd.rk HO328) hb); have n1_ := Aside0.mk (Kd.V_below (Kd.vk HO339) hb); have n2_ := Aside0.mk (below_step (gw_ HB) hb); clear HO328; clear HO339; clear HB; have HO328 := n0_; have HO339 := n1_; have HB := n2_; clear n0_ n1_ n2_; (try clear hb); (try clear hb2); (try clear hk); (try clear hi)) | (go_at_call 14; (with_reducible refine (colloquyref10_Quorum.calls a0 t342 _ A15.out).mono ?_); rintro e w' ⟨rfl, ⟨nd, rfl⟩⟩) | (go_at_call 15; (with_reducible refine (regain_Fast.calls a0 a1 _ _ l2 t343 _ ?side1 ?side2 A17.out).mono ?_); (case side1 => repeat (first | exact (Kd.C_below HR2.out (gw_ HB)) | (with_reducible refine Kd.C_alloc ?_ _) | (with_reducible refine Kd.C_drewN ?_ _) | (with_reducible refine Kd.C_drew ?_))); (case side2 => exact HC2.out); rintro e w25 ⟨rfl, hb⟩; have n0_ := Aside0.mk (Kd.R_below (Kd.rk HO328) hb); have n1_ := Aside0.mk (Kd.V_below (Kd.vk HO339) hb); have n2_ := Aside0.mk (below_step (gw_ HB) hb); clear HO328; clear HO339; clear HB; have HO328 := n0_; have HO339 := n1_; have HB := n2_; clear n0_ n1_ n2_; (try clear hb); (try clear hb2); (try clear hk); (try clear hi)) | (go_at_call 16; (with_reducible refine (colloquyref10_Fast.calls kj5 a0 a1 _ _ l2 t344 _ ?side1 ?side2 A18.out).mono ?_); (case side1 => repeat (first | exact (Kd.C_below HR2.out HB.out) | (with_reducible refine Kd.C_alloc ?_ _) | (with_reducible refine Kd.C_drewN ?_ _) | (with_reducible refine Kd.C_drew ?_))); (case side2 => exact HC2.out); rintro e w26 ⟨rfl, hb⟩; have n0_ := Aside0.mk (Kd.R_below (Kd.rk HO328) hb); have n1_ := Aside0.mk (Kd.V_below (Kd.vk HO339) hb); have n2_ := Aside0.mk (below_step (gw_ HB) hb); clear HO328; clear HO339; clear HB; have HO328 := n0_; have HO339 := n1_; have HB := n2_; clear n0_ n1_ n2_; (try clear hb); (try clear hb2); (try clear hk); (try clear hi)))
      go_ret
      exact ⟨by first | rfl | (simp [errW_none, errW_some] <;> rfl) | (simp [*, errW_none, errW_some] <;> rfl), gw_ HB⟩
     ·
      rw [if_neg c16] at H
      have c16b0 : (t341 == t342) = false := beq_eq_false_iff_ne.mpr c16
      have c16b1 : (t341 != t342) = true := bne_iff_ne.mpr c16
      exact absurd (Option.some.inj H) (by rw [HRT.out]; decide)
    ·
     replace c13 := Bool.eq_false_iff.mpr c13
     subst c13
     have H1 : (some false) = some r := by rw [if_neg (show ¬ (false = true) by decide)] at H; exact H
     clear H
     have H := H1
     clear H1
     exact absurd (Option.some.inj H) (by rw [HRT.out]; decide)

end Go.Proofs.Ytomgiaakhpemaaa.P
