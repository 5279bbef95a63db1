/- Plain Lean functions and their contracts over the translation, written by a program of this session (myprint.py, over the kit's print); no condition but each contract's own. -/
import Derived.Test.YtomgiaakhpemaaaPx0
import Derived.Test.YtomgiaakhpemaaaPx2
import Derived.Test.YtomgiaakhpemaaaPx4
import Derived.Test.YtomgiaakhpemaaaPx7
import Derived.Test.YtomgiaakhpemaaaPx8
import Derived.Test.YtomgiaakhpemaaaPx10
import Derived.Test.YtomgiaakhpemaaaPx15
namespace Go.Proofs.Ytomgiaakhpemaaa.P
open Go.RowKit Go.Proofs.YtomgiaakhpemaaaW.PrintWords Go.Proofs.YtomgiaakhpemaaaW.PrintLast Go.Proofs.YtomgiaakhpemaaaW.PrintMore
attribute [local go_sem] max2_int min2_int max_two min_two max_three min_three max_four min_four   -- for this text's walks alone
set_option linter.unusedVariables false
set_option linter.unusedSimpArgs false

attribute [local go_sem high] eqA28
abbrev q6_0 : Array Bool := #[false, false, false, false, false, false, false, false, false, false, false, false, false, false, false, false, false]
abbrev q6_1 : Array Bool := #[true, false, false, false, false, false, false, false, false, false, false, false, false, false, false, false, false]
abbrev q6_2 : Array Bool := #[true, true, false, false, false, false, false, false, false, false, false, false, false, false, false, false, false]
abbrev q6_3 : Array Bool := #[true, true, true, false, false, false, false, false, false, false, false, false, false, false, false, false, false]
abbrev q6_4 : Array Bool := #[true, true, true, true, false, false, false, false, false, false, false, false, false, false, false, false, false]
abbrev q6_5 : Array Bool := #[true, true, true, true, true, false, false, false, false, false, false, false, false, false, false, false, false]
abbrev q6_6 : Array Bool := #[true, true, true, true, true, false, true, false, false, false, false, false, false, false, false, false, false]
abbrev q6_7 : Array Bool := #[true, true, true, true, true, false, true, true, false, false, false, false, false, false, false, false, false]
abbrev q6_8 : Array Bool := #[true, true, true, true, true, false, true, true, true, false, false, false, false, false, false, false, false]
abbrev q6_9 : Array Bool := #[true, true, true, true, true, false, true, true, true, true, false, false, false, false, false, false, false]
abbrev q6_10 : Array Bool := #[true, true, true, true, true, true, true, true, true, true, false, false, false, false, false, false, false]
abbrev q6_11 : Array Bool := #[true, true, true, true, true, true, true, true, true, true, true, false, false, false, false, false, false]
abbrev q6_12 : Array Bool := #[true, true, true, true, true, true, true, true, true, true, true, true, false, false, false, false, false]
abbrev q6_13 : Array Bool := #[true, true, true, true, true, true, true, true, true, true, true, true, true, false, false, false, false]
abbrev q6_14 : Array Bool := #[true, true, true, true, true, true, true, true, true, true, true, true, true, true, false, false, false]
abbrev q6_15 : Array Bool := #[true, true, true, true, true, true, true, true, true, true, true, true, true, true, true, false, false]
abbrev q6_16 : Array Bool := #[true, true, true, true, true, true, true, true, true, true, true, true, true, true, true, true, false]
abbrev q6_17 : Array Bool := #[true, true, true, true, true, true, true, true, true, true, true, true, true, true, true, true, true]
abbrev q6_18 : Array Bool := #[false, false, false, false, false, false, false, false, false]
abbrev q6_19 : Array Bool := #[true, false, false, false, false, false, false, false, false]
abbrev q6_20 : Array Bool := #[true, false, true, false, false, false, false, false, false]
abbrev q6_21 : Array Bool := #[true, false, true, true, false, false, false, false, false]
abbrev q6_22 : Array Bool := #[true, false, true, true, true, false, false, false, false]
abbrev q6_23 : Array Bool := #[true, false, true, true, true, true, false, false, false]
abbrev q6_24 : Array Bool := #[true, true, true, true, true, true, false, false, false]
abbrev q6_25 : Array Bool := #[true, true, true, true, true, true, true, false, false]
abbrev q6_26 : Array Bool := #[true, true, true, true, true, true, true, true, false]
abbrev q6_27 : Array Bool := #[true, true, true, true, true, true, true, true, true]
def colloquylaw10_RegainFast.j0 : Nat → Int → Int → List (S35) → List Bool → Bool → Bool → Option (Bool)
 | 0, _, _, _, _, _, _ => none
 | k + 1, x0, x1, x2, x3, x9, x36 => if x36 = true then (some x9) else ((regain_Fast.f x0 x1 x2).bind fun t352 => (if t352 = true then ((colloquylaw10_part.f k x2 x3).bind fun t353 => ((regain_Decide.f x0 x1 t353).bind fun bt356 => ((regain_Quorum.f x0).bind fun t368 => (if (t353.length : Int) < t368 then (some (bt356.1 == 0)) else (if 0 < (x2.length : Int) then ((colloquyref06_Same.f k bt356.2.2.2.2.2.2.2.1 bt356.2.2.2.2.2.2.2.2 ((rd_T35 x2 0).f1.f4.f0) ((rd_T35 x2 0).f1.f4.f1)).bind fun t370 => (if bt356.1 = 2 then (if (bt356.2.1 == ((rd_T35 x2 0).f1.f3.f0) && (bt356.2.2.1 == ((rd_T35 x2 0).f1.f3.f1) && (bt356.2.2.2.1 == ((rd_T35 x2 0).f1.f3.f2) && (bt356.2.2.2.2.1 == ((rd_T35 x2 0).f1.f3.f3) && (bt356.2.2.2.2.2.1 == ((rd_T35 x2 0).f1.f3.f4) && (bt356.2.2.2.2.2.2.1.toList == (((rd_T35 x2 0).f1.f3.f5).toList))))))) = true then (some t370) else (some false)) else (some false))) else (none)))))) else (some true)))
def colloquylaw10_RegainFast.f (k : Nat) (a0 : Int) (a1 : Int) (l2 : List (S35)) (l3 : List Bool) : Option (Bool) := (colloquylaw10_awake.f).bind fun t350 => ((colloquylaw10_few.f k l2).bind fun t351 => (if t350 = true then (if t351 = true then (if a0 < 1 then (colloquylaw10_RegainFast.j0 k a0 a1 l2 l3 t350 true) else (if a0 > 7 then (colloquylaw10_RegainFast.j0 k a0 a1 l2 l3 t350 true) else (colloquylaw10_RegainFast.j0 k a0 a1 l2 l3 t350 ((l2.length : Int) != a0)))) else (colloquylaw10_RegainFast.j0 k a0 a1 l2 l3 t350 true)) else (colloquylaw10_RegainFast.j0 k a0 a1 l2 l3 t350 true)))
def colloquylaw10_RegainFast.T11 : Bool × List (List Nat × List Nat) := (true, [([], []), ([0], [0]), ([], []), ([2], [2]), ([3], [3]), ([4], [4]), ([5], [5]), ([1, 6], [1, 6]), ([7, 7, 0, 1, 2, 3, 4, 5, 6, 7], [7])])
def colloquylaw10_RegainFast.B11 : List Nat := [0, 1, 0, 4, 12, 28, 60, 127, 255]
theorem colloquylaw10_RegainFast.tab11 : rtab .any (opsOf Try.f6 11) = colloquylaw10_RegainFast.T11 := by kernel_rfl
theorem colloquylaw10_RegainFast.bits11 : waitsOk colloquylaw10_RegainFast.T11.2 colloquylaw10_RegainFast.B11 = true := by kernel_rfl
def colloquylaw10_RegainFast.T12 : Bool × List (List Nat × List Nat) := (true, [([], []), ([0], [0]), ([1], [1]), ([2], [2]), ([3], [3]), ([4, 3], [3, 4]), ([3], [3]), ([6, 3], [3, 6]), ([7, 3], [3, 7]), ([8, 3], [3, 8]), ([9, 3], [3, 9]), ([5, 10, 3], [3, 5, 10]), ([3, 11], [3, 11]), ([12, 3], [12]), ([13], [13]), ([13, 14], [13, 14]), ([15, 13, 0, 1, 2, 3, 4, 5, 6, 7, 8, 9, 10, 11, 12, 13, 14, 15], [15])])
def colloquylaw10_RegainFast.B12 : List Nat := [0, 1, 3, 7, 15, 31, 15, 79, 207, 463, 975, 2047, 4095, 8191, 16383, 32767, 65535]
theorem colloquylaw10_RegainFast.tab12 : rtab .any (opsOf Try.f6 12) = colloquylaw10_RegainFast.T12 := by kernel_rfl
theorem colloquylaw10_RegainFast.bits12 : waitsOk colloquylaw10_RegainFast.T12.2 colloquylaw10_RegainFast.B12 = true := by kernel_rfl
set_option maxHeartbeats 8000000 in
set_option maxRecDepth 100000 in
theorem colloquylaw10_RegainFast.calls (k : Nat) (a0 : Int) (a1 : Int) (A2 : Option Addr) (c2 : Nat) (l2 : List (S35)) (A3 : Option Addr) (c3 : Nat) (l3 : List Bool) (r : Bool) (w : World) (hr2 : Kd.C k35 w A2 l2.length l2) (hc2 : l2.length ≤ c2) (hr3 : Kd.C Kd.bool w A3 l3.length l3) (hc3 : l3.length ≤ c3) (hrt : r = true) (h : colloquylaw10_RegainFast.f k a0 a1 l2 l3 = some r) :
  Calls Try.prog 6 #[.int .i64 a0, .int .i64 a1, .slice A2 l2.length c2, .slice A3 l3.length c3] w fun e w' => e = .returned (.bool r) ∧ Below w.heap.size w w' := by
 have hu37 := Try.underlying37
 have hu31 := Try.underlying31
 have hu28 := Try.underlying28
 have HRT := Aside0.mk hrt
 clear hrt
 have HR2 := Aside0.mk hr2
 have HC2 := Aside0.mk hc2
 clear hr2 hc2
 have HR3 := Aside0.mk hr3
 have HC3 := Aside0.mk hc3
 clear hr3 hc3
 have HB := Aside0.mk (Below.refl w.heap.size w)
 have H : ((colloquylaw10_awake.f).bind fun t350 => ((colloquylaw10_few.f k l2).bind fun t351 => (if t350 = true then (if t351 = true then (if a0 < 1 then (colloquylaw10_RegainFast.j0 k a0 a1 l2 l3 t350 true) else (if a0 > 7 then (colloquylaw10_RegainFast.j0 k a0 a1 l2 l3 t350 true) else (colloquylaw10_RegainFast.j0 k a0 a1 l2 l3 t350 ((l2.length : Int) != a0)))) else (colloquylaw10_RegainFast.j0 k a0 a1 l2 l3 t350 true)) else (colloquylaw10_RegainFast.j0 k a0 a1 l2 l3 t350 true)))) = some r := h
 clear h
 replace H := Option.bind_eq_some_iff.mp H
 obtain ⟨t350, A50, H⟩ := H
 replace H : ((colloquylaw10_few.f k l2).bind fun t351 => (if t350 = true then (if t351 = true then (if a0 < 1 then (colloquylaw10_RegainFast.j0 k a0 a1 l2 l3 t350 true) else (if a0 > 7 then (colloquylaw10_RegainFast.j0 k a0 a1 l2 l3 t350 true) else (colloquylaw10_RegainFast.j0 k a0 a1 l2 l3 t350 ((l2.length : Int) != a0)))) else (colloquylaw10_RegainFast.j0 k a0 a1 l2 l3 t350 true)) else (colloquylaw10_RegainFast.j0 k a0 a1 l2 l3 t350 true))) = some r := H
 have A5 := Aside0.mk A50
 clear A50
 replace H := Option.bind_eq_some_iff.mp H
 obtain ⟨t351, A60, H⟩ := H
 replace H : (if t350 = true then (if t351 = true then (if a0 < 1 then (colloquylaw10_RegainFast.j0 k a0 a1 l2 l3 t350 true) else (if a0 > 7 then (colloquylaw10_RegainFast.j0 k a0 a1 l2 l3 t350 true) else (colloquylaw10_RegainFast.j0 k a0 a1 l2 l3 t350 ((l2.length : Int) != a0)))) else (colloquylaw10_RegainFast.j0 k a0 a1 l2 l3 t350 true)) else (colloquylaw10_RegainFast.j0 k a0 a1 l2 l3 t350 true)) = some r := H
 have A6 := Aside0.mk A60
 clear A60
 have HC7 := Aside0.mk H
 clear H
 go_enter Try.func6, Try.ntmps6
 go_upto_region 3 with (first | ((with_reducible refine gate_callee (f := 8) rfl ?_); refine goesL_ (some 14) rfl rfl Try.func8 (by kernel_rfl) rfl #[] rfl (by (try simp only [List.map_toArray, List.map_cons, List.map_nil]); first | done | rfl | (simp only [List.length_drop, List.length_take]; rfl)) ?_; (with_reducible refine (colloquylaw10_awake.calls  t350 _ A5.out).mono ?_); rintro e w8 ⟨rfl, hb⟩; refine ⟨_, rfl, ?_⟩; have n0_ := Aside0.mk (below_step (gw_ HB) hb); clear HB; have HB := n0_; clear n0_; (try clear hb); (try clear hb2); (try clear hk); (try clear hi)) | ((with_reducible refine gate_callee (f := 9) rfl ?_); refine goesL_ (some 16) rfl rfl Try.func9 (by kernel_rfl) rfl #[.slice A2 l2.length c2] rfl (by (try simp only [List.map_toArray, List.map_cons, List.map_nil]); first | done | rfl | (simp only [List.length_drop, List.length_take]; rfl)) ?_; (with_reducible refine (colloquylaw10_few.calls k _ _ l2 t351 _ ?side1 ?side2 A6.out).mono ?_); (case side1 => repeat (first | exact (Kd.C_below HR2.out HB.out) | (with_reducible refine Kd.C_alloc ?_ _) | (with_reducible refine Kd.C_drewN ?_ _) | (with_reducible refine Kd.C_drew ?_))); (case side2 => exact HC2.out); rintro e w' ⟨rfl, ⟨nd, rfl⟩⟩; refine ⟨_, rfl, ?_⟩))
 (try simp only [Act.put, List.setIfInBounds_toArray, List.set_cons_zero, List.set_cons_succ])
 go_cut [36] (fun v36 wc => ∃ (kq : Nat) (x36_6 : Bool), v36 = .bool x36_6 ∧ Aside0 (colloquylaw10_RegainFast.j0 kq a0 a1 l2 l3 t350 x36_6 = some r) ∧ Aside0 (kq ≤ k) ∧ Aside0 (Below w.heap.size w wc))
 case first =>
  have H := HC7.out
  clear HC7
  by_cases c9 : t350 = true
  ·
   subst c9
   have H1 : (if t351 = true then (if a0 < 1 then (colloquylaw10_RegainFast.j0 k a0 a1 l2 l3 true true) else (if a0 > 7 then (colloquylaw10_RegainFast.j0 k a0 a1 l2 l3 true true) else (colloquylaw10_RegainFast.j0 k a0 a1 l2 l3 true ((l2.length : Int) != a0)))) else (colloquylaw10_RegainFast.j0 k a0 a1 l2 l3 true true)) = some r := by rw [if_pos rfl] at H; exact H
   clear H
   have H := H1
   clear H1
   by_cases c10 : t351 = true
   ·
    subst c10
    have H1 : (if a0 < 1 then (colloquylaw10_RegainFast.j0 k a0 a1 l2 l3 true true) else (if a0 > 7 then (colloquylaw10_RegainFast.j0 k a0 a1 l2 l3 true true) else (colloquylaw10_RegainFast.j0 k a0 a1 l2 l3 true ((l2.length : Int) != a0)))) = some r := by rw [if_pos rfl] at H; exact H
    clear H
    have H := H1
    clear H1
    by_cases c11 : a0 < 1
    ·
     rw [if_pos c11] at H
     have c11b0 : decide (a0 < 1) = true := decide_eq_true c11
     clear c11
     (first | rw [c11b0] | (simp only [i64_w, i32_w]; rw [c11b0]) | skip)
     have H' := Aside0.mk H
     clear H
     go_wp2
     go_meet
     case rel => exact ⟨_, (true), (by first | rfl | (simp; done) | (simp [*]; done)), H', ⟨by first | omega | exact Nat.le_refl _⟩, ⟨gw_ HB⟩⟩
    ·
     rw [if_neg c11] at H
     have c11b0 : decide (a0 < 1) = false := decide_eq_false c11
     clear c11
     (first | rw [c11b0] | (simp only [i64_w, i32_w]; rw [c11b0]) | skip)
     by_cases c12 : a0 > 7
     ·
      rw [if_pos c12] at H
      have c12b0 : decide (7 < a0) = true := decide_eq_true c12
      clear c12
      have H' := Aside0.mk H
      clear H
      go_wp2
      go_meet
      case rel => exact ⟨_, (true), (by first | rfl | (simp; done) | (simp [*]; done)), H', ⟨by first | omega | exact Nat.le_refl _⟩, ⟨gw_ HB⟩⟩
     ·
      rw [if_neg c12] at H
      have c12b0 : decide (7 < a0) = false := decide_eq_false c12
      clear c12
      have H' := Aside0.mk H
      clear H
      go_wp2
      go_meet
      case rel => exact ⟨_, (((l2.length : Int) != a0)), (by first | rfl | (simp; done) | (simp [*]; done)), H', ⟨by first | omega | exact Nat.le_refl _⟩, ⟨gw_ HB⟩⟩
   ·
    replace c10 := Bool.eq_false_iff.mpr c10
    subst c10
    have H1 : (colloquylaw10_RegainFast.j0 k a0 a1 l2 l3 true true) = some r := by rw [if_neg (show ¬ (false = true) by decide)] at H; exact H
    clear H
    have H := H1
    clear H1
    have H' := Aside0.mk H
    clear H
    go_wp2
    go_meet
    case rel => exact ⟨_, (true), (by first | rfl | (simp; done) | (simp [*]; done)), H', ⟨by first | omega | exact Nat.le_refl _⟩, ⟨gw_ HB⟩⟩
  ·
   replace c9 := Bool.eq_false_iff.mpr c9
   subst c9
   have H1 : (colloquylaw10_RegainFast.j0 k a0 a1 l2 l3 false true) = some r := by rw [if_neg (show ¬ (false = true) by decide)] at H; exact H
   clear H
   have H := H1
   clear H1
   have H' := Aside0.mk H
   clear H
   go_wp2
   go_meet
   case rel => exact ⟨_, (true), (by first | rfl | (simp; done) | (simp [*]; done)), H', ⟨by first | omega | exact Nat.le_refl _⟩, ⟨gw_ HB⟩⟩
 case rest =>
  clear HC7
  try clear c1
  try clear c2
  try clear p2
  try clear c3
  try clear c6
  try clear c8
  try clear c9
  try clear c10
  try clear c11
  try clear c11b0
  try clear c12
  try clear c12b0
  obtain ⟨kq, x36_6, rfl, HA, HJ6, HB⟩ := hcut
  cases kq with
  | zero => exact absurd HA.out (by simp [colloquylaw10_RegainFast.j0])
  | succ kj6 =>
   have H := HA.out
   clear HA
   simp only [colloquylaw10_RegainFast.j0] at H
   by_cases c13 : x36_6 = true
   ·
    subst c13
    have H1 : (some t350) = some r := by rw [if_pos rfl] at H; exact H
    clear H
    have H := H1
    clear H1
    obtain rfl := Option.some.inj H
    go_wp2
    go_ret
    exact ⟨by first | rfl | (simp [errW_none, errW_some] <;> rfl) | (simp [*, errW_none, errW_some] <;> rfl), gw_ HB⟩
   ·
    replace c13 := Bool.eq_false_iff.mpr c13
    subst c13
    have H1 : ((regain_Fast.f a0 a1 l2).bind fun t352 => (if t352 = true then ((colloquylaw10_part.f kj6 l2 l3).bind fun t353 => ((regain_Decide.f a0 a1 t353).bind fun bt356 => ((regain_Quorum.f a0).bind fun t368 => (if (t353.length : Int) < t368 then (some (bt356.1 == 0)) else (if 0 < (l2.length : Int) then ((colloquyref06_Same.f kj6 bt356.2.2.2.2.2.2.2.1 bt356.2.2.2.2.2.2.2.2 ((rd_T35 l2 0).f1.f4.f0) ((rd_T35 l2 0).f1.f4.f1)).bind fun t370 => (if bt356.1 = 2 then (if (bt356.2.1 == ((rd_T35 l2 0).f1.f3.f0) && (bt356.2.2.1 == ((rd_T35 l2 0).f1.f3.f1) && (bt356.2.2.2.1 == ((rd_T35 l2 0).f1.f3.f2) && (bt356.2.2.2.2.1 == ((rd_T35 l2 0).f1.f3.f3) && (bt356.2.2.2.2.2.1 == ((rd_T35 l2 0).f1.f3.f4) && (bt356.2.2.2.2.2.2.1.toList == (((rd_T35 l2 0).f1.f3.f5).toList))))))) = true then (some t370) else (some false)) else (some false))) else (none)))))) else (some true))) = some r := by rw [if_neg (show ¬ (false = true) by decide)] at H; exact H
    clear H
    have H := H1
    clear H1
    replace H := Option.bind_eq_some_iff.mp H
    obtain ⟨t352, A140, H⟩ := H
    replace H : (if t352 = true then ((colloquylaw10_part.f kj6 l2 l3).bind fun t353 => ((regain_Decide.f a0 a1 t353).bind fun bt356 => ((regain_Quorum.f a0).bind fun t368 => (if (t353.length : Int) < t368 then (some (bt356.1 == 0)) else (if 0 < (l2.length : Int) then ((colloquyref06_Same.f kj6 bt356.2.2.2.2.2.2.2.1 bt356.2.2.2.2.2.2.2.2 ((rd_T35 l2 0).f1.f4.f0) ((rd_T35 l2 0).f1.f4.f1)).bind fun t370 => (if bt356.1 = 2 then (if (bt356.2.1 == ((rd_T35 l2 0).f1.f3.f0) && (bt356.2.2.1 == ((rd_T35 l2 0).f1.f3.f1) && (bt356.2.2.2.1 == ((rd_T35 l2 0).f1.f3.f2) && (bt356.2.2.2.2.1 == ((rd_T35 l2 0).f1.f3.f3) && (bt356.2.2.2.2.2.1 == ((rd_T35 l2 0).f1.f3.f4) && (bt356.2.2.2.2.2.2.1.toList == (((rd_T35 l2 0).f1.f3.f5).toList))))))) = true then (some t370) else (some false)) else (some false))) else (none)))))) else (some true)) = some r := H
    have A14 := Aside0.mk A140
    clear A140
    by_cases c15 : t352 = true
    ·
     subst c15
     have H1 : ((colloquylaw10_part.f kj6 l2 l3).bind fun t353 => ((regain_Decide.f a0 a1 t353).bind fun bt356 => ((regain_Quorum.f a0).bind fun t368 => (if (t353.length : Int) < t368 then (some (bt356.1 == 0)) else (if 0 < (l2.length : Int) then ((colloquyref06_Same.f kj6 bt356.2.2.2.2.2.2.2.1 bt356.2.2.2.2.2.2.2.2 ((rd_T35 l2 0).f1.f4.f0) ((rd_T35 l2 0).f1.f4.f1)).bind fun t370 => (if bt356.1 = 2 then (if (bt356.2.1 == ((rd_T35 l2 0).f1.f3.f0) && (bt356.2.2.1 == ((rd_T35 l2 0).f1.f3.f1) && (bt356.2.2.2.1 == ((rd_T35 l2 0).f1.f3.f2) && (bt356.2.2.2.2.1 == ((rd_T35 l2 0).f1.f3.f3) && (bt356.2.2.2.2.2.1 == ((rd_T35 l2 0).f1.f3.f4) && (bt356.2.2.2.2.2.2.1.toList == (((rd_T35 l2 0).f1.f3.f5).toList))))))) = true then (some t370) else (some false)) else (some false))) else (none)))))) = some r := by rw [if_pos rfl] at H; exact H
     clear H
     have H := H1
     clear H1
     replace H := Option.bind_eq_some_iff.mp H
     obtain ⟨t353, A160, H⟩ := H
     replace H : ((regain_Decide.f a0 a1 t353).bind fun bt356 => ((regain_Quorum.f a0).bind fun t368 => (if (t353.length : Int) < t368 then (some (bt356.1 == 0)) else (if 0 < (l2.length : Int) then ((colloquyref06_Same.f kj6 bt356.2.2.2.2.2.2.2.1 bt356.2.2.2.2.2.2.2.2 ((rd_T35 l2 0).f1.f4.f0) ((rd_T35 l2 0).f1.f4.f1)).bind fun t370 => (if bt356.1 = 2 then (if (bt356.2.1 == ((rd_T35 l2 0).f1.f3.f0) && (bt356.2.2.1 == ((rd_T35 l2 0).f1.f3.f1) && (bt356.2.2.2.1 == ((rd_T35 l2 0).f1.f3.f2) && (bt356.2.2.2.2.1 == ((rd_T35 l2 0).f1.f3.f3) && (bt356.2.2.2.2.2.1 == ((rd_T35 l2 0).f1.f3.f4) && (bt356.2.2.2.2.2.2.1.toList == (((rd_T35 l2 0).f1.f3.f5).toList))))))) = true then (some t370) else (some false)) else (some false))) else (none))))) = some r := H
     have A16 := Aside0.mk A160
     clear A160
     replace H := Option.bind_eq_some_iff.mp H
     obtain ⟨⟨t356, t357, t358, t359, t360, t361, t362, t363, t364⟩, A170, H⟩ := H
     replace H : ((regain_Quorum.f a0).bind fun t368 => (if (t353.length : Int) < t368 then (some (t356 == 0)) else (if 0 < (l2.length : Int) then ((colloquyref06_Same.f kj6 t363 t364 ((rd_T35 l2 0).f1.f4.f0) ((rd_T35 l2 0).f1.f4.f1)).bind fun t370 => (if t356 = 2 then (if (t357 == ((rd_T35 l2 0).f1.f3.f0) && (t358 == ((rd_T35 l2 0).f1.f3.f1) && (t359 == ((rd_T35 l2 0).f1.f3.f2) && (t360 == ((rd_T35 l2 0).f1.f3.f3) && (t361 == ((rd_T35 l2 0).f1.f3.f4) && (t362.toList == (((rd_T35 l2 0).f1.f3.f5).toList))))))) = true then (some t370) else (some false)) else (some false))) else (none)))) = some r := H
     have A17 := Aside0.mk A170
     clear A170
     replace H := Option.bind_eq_some_iff.mp H
     obtain ⟨t368, A180, H⟩ := H
     replace H : (if (t353.length : Int) < t368 then (some (t356 == 0)) else (if 0 < (l2.length : Int) then ((colloquyref06_Same.f kj6 t363 t364 ((rd_T35 l2 0).f1.f4.f0) ((rd_T35 l2 0).f1.f4.f1)).bind fun t370 => (if t356 = 2 then (if (t357 == ((rd_T35 l2 0).f1.f3.f0) && (t358 == ((rd_T35 l2 0).f1.f3.f1) && (t359 == ((rd_T35 l2 0).f1.f3.f2) && (t360 == ((rd_T35 l2 0).f1.f3.f3) && (t361 == ((rd_T35 l2 0).f1.f3.f4) && (t362.toList == (((rd_T35 l2 0).f1.f3.f5).toList))))))) = true then (some t370) else (some false)) else (some false))) else (none))) = some r := H
     have A18 := Aside0.mk A180
     clear A180
     by_cases c19 : (t353.length : Int) < t368
     ·
      rw [if_pos c19] at H
      have c19b0 : decide ((t353.length : Int) < t368) = true := decide_eq_true c19
      clear c19
      obtain rfl := Option.some.inj H
      go_wp2_with (first | ((with_reducible refine gate_callee (f := 15) rfl ?_); refine goesL_ (some 41) rfl rfl Try.func15 (by kernel_rfl) rfl #[.int .i64 a0, .int .i64 a1, .slice A2 l2.length c2] rfl (by (try simp only [List.map_toArray, List.map_cons, List.map_nil]); first | done | rfl | (simp only [List.length_drop, List.length_take]; rfl)) ?_; (with_reducible refine (regain_Fast.calls a0 a1 _ _ l2 true _ ?side1 ?side2 A14.out).mono ?_); (case side1 => repeat (first | exact (Kd.C_below HR2.out HB.out) | (with_reducible refine Kd.C_alloc ?_ _) | (with_reducible refine Kd.C_drewN ?_ _) | (with_reducible refine Kd.C_drew ?_))); (case side2 => exact HC2.out); rintro e w20 ⟨rfl, hb⟩; refine ⟨_, rfl, ?_⟩; have n0_ := Aside0.mk (below_step (gw_ HB) hb); clear HB; have HB := n0_; clear n0_; (try clear hb); (try clear hb2); (try clear hk); (try clear hi)) | ((with_reducible refine gate_callee (f := 17) rfl ?_); refine goesL_ (some 45) rfl rfl Try.func17 (by kernel_rfl) rfl #[.slice A2 l2.length c2, .slice A3 l3.length c3] rfl (by (try simp only [List.map_toArray, List.map_cons, List.map_nil]); first | done | rfl | (simp only [List.length_drop, List.length_take]; rfl)) ?_; (with_reducible refine (colloquylaw10_part.calls kj6 (fun k_ => k_ < w.heap.size) _ _ l2 _ _ l3 t353 _ ?side1 ?side2 ?side3 A16.out).mono ?_); (case side1 => exact Kd.V_mk HC2.out (Kd.F_below (Kd.C_F k35_heap HR2.out) (gw_ HB))); (case side2 => repeat (first | exact (Kd.C_below HR3.out HB.out) | (with_reducible refine Kd.C_alloc ?_ _) | (with_reducible refine Kd.C_drewN ?_ _) | (with_reducible refine Kd.C_drew ?_))); (case side3 => exact HC3.out); rintro e w21 ⟨v354, rfl, ho0, hb⟩; refine ⟨_, rfl, ?_⟩; have n0_ := Aside0.mk (Kd.N_lower (Kd.N_mono (ok' := fun k_ => True) ho0 (fun k_ hk_ => trivial)) (below_size (gw_ HB))); have n1_ := Aside0.mk (below_step (gw_ HB) hb); clear HB; have HO355 := n0_; have HB := n1_; clear n0_ n1_; (try clear hb); (try clear hb2); (try clear hk); (try clear hi); (try clear ho0); obtain ⟨Ao22, co22, eo22⟩ := Kd.N_slice HO355.out; subst eo22) | ((with_reducible refine gate_callee (f := 10) rfl ?_); refine goesL_ (some 49) rfl rfl Try.func10 (by kernel_rfl) rfl #[.int .i64 a0, .int .i64 a1, .slice Ao22 t353.length co22] rfl (by (try simp only [List.map_toArray, List.map_cons, List.map_nil]); first | done | rfl | (simp only [List.length_drop, List.length_take]; rfl)) ?_; (with_reducible refine (regain_Decide.calls a0 a1 _ _ t353 t356 t357 t358 t359 t360 t361 t362 t363 t364 _ ?side1 ?side2 A17.out).mono ?_); (case side1 => repeat (first | exact (Kd.N_reads' HO355.out).2.2 | (with_reducible refine Kd.C_alloc ?_ _) | (with_reducible refine Kd.C_drewN ?_ _) | (with_reducible refine Kd.C_drew ?_))); (case side2 => exact (Kd.N_reads' HO355.out).2.1); rintro e w23 ⟨v365, rfl, ho0, hb⟩; refine ⟨_, rfl, ?_⟩; have n0_ := Aside0.mk (Kd.N_elder' (Kd.nk HO355) (Kd.R_base ho0) hb); have n1_ := Aside0.mk (Kd.R_lower ho0 (below_size (gw_ HB))); have n2_ := Aside0.mk (below_step (gw_ HB) hb); clear HO355; clear HB; have HO355 := n0_; have HO366 := n1_; have HB := n2_; clear n0_ n1_ n2_; (try clear hb); (try clear hb2); (try clear hk); (try clear hi); (try clear ho0)) | ((with_reducible refine gate_dst (N := 12) rfl ?_); (try (refine gate_guard (by rfl) ?_; dsimp only)); refine box_event ?hg (N := 12) ?hd (cs := #[.int .i64 0, .int .i64 0, .int .i64 0, .int .i64 0, .int .i64 0, .int .i64 0, .string (⟨#[]⟩ : ByteArray), .int .i64 0, .slice none 0 0]) (t := 37) ?hr ?_; (case hd => rfl); (case hg => rfl); (case hr => first | (go_simp; done) | (go_simp; rfl)); intro gb367 hg w24 hbox hb; have n0_ := Aside0.mk (Kd.N_below (Kd.N_elderB (Kd.nk HO355) gb367 (Nat.le_of_eq hg.symm)) hb); have n1_ := Aside0.mk (Kd.R_below (Kd.rk HO366) hb); have s_ := step_size_ (gw_ HB) hb hg; have n2_ := Aside0.mk s_.1; have n3_ := Aside0.mk (hbox); have n4_ := Aside0.mk s_.2; clear s_; have n5_ := n4_; clear HO355; clear HO366; clear HB; have HO355 := n0_; have HO366 := n1_; have HB := n2_; have BK367 := n3_; have GW367 := n4_; have GE367 := n5_; clear n0_ n1_ n2_ n3_ n4_ n5_; clear hb hbox hg; obtain ⟨hcz25_0, hcz25_1, hcz25_2, hcz25_3, hcz25_4, hcz25_5, hcz25_6, hcz25_7, hcz25_8⟩ := blk_cells9 BK367.out; obtain ⟨hfz25_0, hfz25_1, hfz25_2, hfz25_3, hfz25_4, hfz25_5, hfz25_6, hfz25_7, hfz25_8⟩ := blk_frozens9 BK367.out; obtain ⟨Ao26, co26, eo26⟩ := Kd.R_slice HO366.out; subst eo26) | ((with_reducible refine gate_callee (f := 11) rfl ?_); refine goesL_ (some 53) rfl rfl Try.func11 (by kernel_rfl) rfl #[.int .i64 a0] rfl (by (try simp only [List.map_toArray, List.map_cons, List.map_nil]); first | done | rfl | (simp only [List.length_drop, List.length_take]; rfl)) ?_; (with_reducible refine (regain_Quorum.calls a0 t368 _ A18.out).mono ?_); rintro e w27 ⟨rfl, hb⟩; refine ⟨_, rfl, ?_⟩; have n0_ := Aside0.mk (Kd.N_below (by (with_reducible repeat (first | apply Kd.N_alloc | apply Kd.N_drewN | apply Kd.N_drew)); exact (Kd.N_mono (Kd.N_far (p := ⟨gb367, 8, none⟩) (Kd.N_far (p := ⟨gb367, 7, none⟩) (Kd.N_far (p := ⟨gb367, 6, none⟩) (Kd.N_far (p := ⟨gb367, 5, none⟩) (Kd.N_far (p := ⟨gb367, 4, none⟩) (Kd.N_far (p := ⟨gb367, 3, none⟩) (Kd.N_far (p := ⟨gb367, 2, none⟩) (Kd.N_far (p := ⟨gb367, 1, none⟩) (Kd.N_far (p := ⟨gb367, 0, none⟩) (Kd.N_mono HO355.out (fun k_ hk => (⟨hk, hk.2⟩ : _ ∧ k_ ≠ gb367))) (fun _ hk => hk.2) (.int .i64 t356)) (fun _ hk => hk.2) (.int .i64 t357)) (fun _ hk => hk.2) (.int .i64 t358)) (fun _ hk => hk.2) (.int .i64 t359)) (fun _ hk => hk.2) (.int .i64 t360)) (fun _ hk => hk.2) (.int .i64 t361)) (fun _ hk => hk.2) (.string t362)) (fun _ hk => hk.2) (.int .i64 t363)) (fun _ hk => hk.2) (.slice Ao26 t364.length co26)) (fun _ h_ => h_.1))) hb); have n1_ := Aside0.mk (Kd.R_below (by (with_reducible repeat (first | apply Kd.R_alloc | apply Kd.R_drewN | apply Kd.R_drew)); exact (Kd.R_mono (Kd.R_far9 (g := gb367) (Kd.R_types HO366.out BK367.out (by decide)) (fun _ hk => hk.2)) (fun _ h_ => h_.1))) hb); have n2_ := Aside0.mk (blk_below (g := gb367) (o := .cells #[.int .i64 t356, .int .i64 t357, .int .i64 t358, .int .i64 t359, .int .i64 t360, .int .i64 t361, .string t362, .int .i64 t363, .slice Ao26 t364.length co26] 37 (0, 0)) (by (with_reducible repeat (first | refine blk_drewN ?_ _ | refine blk_drew ?_ | refine blk_alloc ?_ _)); refine blk_put9 (cs := #[.int .i64 0, .int .i64 0, .int .i64 0, .int .i64 0, .int .i64 0, .int .i64 0, .string (⟨#[]⟩ : ByteArray), .int .i64 0, .slice none 0 0]) ?_ rfl; (with_reducible repeat (first | refine blk_drewN ?_ _ | refine blk_drew ?_ | refine blk_alloc ?_ _)); exact BK367.out) hb); have n3_ := Aside0.mk (below_step (gw_ HB) hb); clear HO355; clear HO366; clear BK367; clear HB; have HO355 := n0_; have HO366 := n1_; have BK367 := n2_; have HB := n3_; clear n0_ n1_ n2_ n3_; (try clear hb); (try clear hb2); (try clear hk); (try clear hi); obtain ⟨hcz28_0, hcz28_1, hcz28_2, hcz28_3, hcz28_4, hcz28_5, hcz28_6, hcz28_7, hcz28_8⟩ := blk_cells9 BK367.out; obtain ⟨hfz28_0, hfz28_1, hfz28_2, hfz28_3, hfz28_4, hfz28_5, hfz28_6, hfz28_7⟩ := blk_frozens8 BK367.out; have hfz28_8 := blk_frozen BK367.out 8))
      go_ret
      exact ⟨by first | rfl | (simp [errW_none, errW_some] <;> rfl) | (simp [*, errW_none, errW_some] <;> rfl), gw_ HB⟩
     ·
      rw [if_neg c19] at H
      have c19b0 : decide ((t353.length : Int) < t368) = false := decide_eq_false c19
      clear c19
      by_cases c29 : 0 < (l2.length : Int)
      ·
       rw [if_pos c29] at H
       have c29b0 : decide (0 < (l2.length : Int)) = true := decide_eq_true c29
       have c29b1 : decide (0 < l2.length) = true := decide_eq_true (by omega)
       clear c29
       replace H := Option.bind_eq_some_iff.mp H
       obtain ⟨t370, A300, H⟩ := H
       replace H : (if t356 = 2 then (if (t357 == ((rd_T35 l2 0).f1.f3.f0) && (t358 == ((rd_T35 l2 0).f1.f3.f1) && (t359 == ((rd_T35 l2 0).f1.f3.f2) && (t360 == ((rd_T35 l2 0).f1.f3.f3) && (t361 == ((rd_T35 l2 0).f1.f3.f4) && (t362.toList == (((rd_T35 l2 0).f1.f3.f5).toList))))))) = true then (some t370) else (some false)) else (some false)) = some r := H
       have A30 := Aside0.mk A300
       clear A300
       by_cases c31 : t356 = 2
       ·
        rw [if_pos c31] at H
        have c31b0 : (t356 == 2) = true := beq_iff_eq.mpr c31
        have c31b1 : (t356 != 2) = false := bne_eq_false_iff_eq.mpr c31
        clear c31
        by_cases c32 : (t357 == ((rd_T35 l2 0).f1.f3.f0) && (t358 == ((rd_T35 l2 0).f1.f3.f1) && (t359 == ((rd_T35 l2 0).f1.f3.f2) && (t360 == ((rd_T35 l2 0).f1.f3.f3) && (t361 == ((rd_T35 l2 0).f1.f3.f4) && (t362.toList == (((rd_T35 l2 0).f1.f3.f5).toList))))))) = true
        ·
         rw [if_pos c32] at H
         have c32b0 : (t357 == ((rd_T35 l2 0).f1.f3.f0) && (t358 == ((rd_T35 l2 0).f1.f3.f1) && (t359 == ((rd_T35 l2 0).f1.f3.f2) && (t360 == ((rd_T35 l2 0).f1.f3.f3) && (t361 == ((rd_T35 l2 0).f1.f3.f4) && (t362.toList == (((rd_T35 l2 0).f1.f3.f5).toList))))))) = true := c32
         (try (have c32b1 : decide (t357 = ((rd_T35 l2 0).f1.f3.f0) && (t358 == ((rd_T35 l2 0).f1.f3.f1) && (t359 == ((rd_T35 l2 0).f1.f3.f2) && (t360 == ((rd_T35 l2 0).f1.f3.f3) && (t361 == ((rd_T35 l2 0).f1.f3.f4) && (t362.toList == (((rd_T35 l2 0).f1.f3.f5).toList))))))) = true := by simpa using c32))
         (try (have c32b2 : (t357 == ((rd_T35 l2 0).f1.f3.f0) && (t358 == ((rd_T35 l2 0).f1.f3.f1) && (t359 == ((rd_T35 l2 0).f1.f3.f2) && (t360 == ((rd_T35 l2 0).f1.f3.f3) && (t361 == ((rd_T35 l2 0).f1.f3.f4) && (t362.toList == (((rd_T35 l2 0).f1.f3.f5).toList))))))) = true := by simpa using c32))
         clear c32
         obtain rfl := Option.some.inj H
         try go_wp2_with (first | ((with_reducible refine gate_callee (f := 15) rfl ?_); refine goesL_ (some 41) rfl rfl Try.func15 (by kernel_rfl) rfl #[.int .i64 a0, .int .i64 a1, .slice A2 l2.length c2] rfl (by (try simp only [List.map_toArray, List.map_cons, List.map_nil]); first | done | rfl | (simp only [List.length_drop, List.length_take]; rfl)) ?_; (with_reducible refine (regain_Fast.calls a0 a1 _ _ l2 true _ ?side1 ?side2 A14.out).mono ?_); (case side1 => repeat (first | exact (Kd.C_below HR2.out HB.out) | (with_reducible refine Kd.C_alloc ?_ _) | (with_reducible refine Kd.C_drewN ?_ _) | (with_reducible refine Kd.C_drew ?_))); (case side2 => exact HC2.out); rintro e w33 ⟨rfl, hb⟩; refine ⟨_, rfl, ?_⟩; have n0_ := Aside0.mk (below_step (gw_ HB) hb); clear HB; have HB := n0_; clear n0_; (try clear hb); (try clear hb2); (try clear hk); (try clear hi)) | ((with_reducible refine gate_callee (f := 17) rfl ?_); refine goesL_ (some 45) rfl rfl Try.func17 (by kernel_rfl) rfl #[.slice A2 l2.length c2, .slice A3 l3.length c3] rfl (by (try simp only [List.map_toArray, List.map_cons, List.map_nil]); first | done | rfl | (simp only [List.length_drop, List.length_take]; rfl)) ?_; (with_reducible refine (colloquylaw10_part.calls kj6 (fun k_ => k_ < w.heap.size) _ _ l2 _ _ l3 t353 _ ?side1 ?side2 ?side3 A16.out).mono ?_); (case side1 => exact Kd.V_mk HC2.out (Kd.F_below (Kd.C_F k35_heap HR2.out) (gw_ HB))); (case side2 => repeat (first | exact (Kd.C_below HR3.out HB.out) | (with_reducible refine Kd.C_alloc ?_ _) | (with_reducible refine Kd.C_drewN ?_ _) | (with_reducible refine Kd.C_drew ?_))); (case side3 => exact HC3.out); rintro e w34 ⟨v354, rfl, ho0, hb⟩; refine ⟨_, rfl, ?_⟩; have n0_ := Aside0.mk (Kd.N_lower (Kd.N_mono (ok' := fun k_ => True) ho0 (fun k_ hk_ => trivial)) (below_size (gw_ HB))); have n1_ := Aside0.mk (below_step (gw_ HB) hb); clear HB; have HO355 := n0_; have HB := n1_; clear n0_ n1_; (try clear hb); (try clear hb2); (try clear hk); (try clear hi); (try clear ho0); obtain ⟨Ao35, co35, eo35⟩ := Kd.N_slice HO355.out; subst eo35) | ((with_reducible refine gate_callee (f := 10) rfl ?_); refine goesL_ (some 49) rfl rfl Try.func10 (by kernel_rfl) rfl #[.int .i64 a0, .int .i64 a1, .slice Ao35 t353.length co35] rfl (by (try simp only [List.map_toArray, List.map_cons, List.map_nil]); first | done | rfl | (simp only [List.length_drop, List.length_take]; rfl)) ?_; (with_reducible refine (regain_Decide.calls a0 a1 _ _ t353 t356 t357 t358 t359 t360 t361 t362 t363 t364 _ ?side1 ?side2 A17.out).mono ?_); (case side1 => repeat (first | exact (Kd.N_reads' HO355.out).2.2 | (with_reducible refine Kd.C_alloc ?_ _) | (with_reducible refine Kd.C_drewN ?_ _) | (with_reducible refine Kd.C_drew ?_))); (case side2 => exact (Kd.N_reads' HO355.out).2.1); rintro e w36 ⟨v365, rfl, ho0, hb⟩; refine ⟨_, rfl, ?_⟩; have n0_ := Aside0.mk (Kd.N_elder' (Kd.nk HO355) (Kd.R_base ho0) hb); have n1_ := Aside0.mk (Kd.R_lower ho0 (below_size (gw_ HB))); have n2_ := Aside0.mk (below_step (gw_ HB) hb); clear HO355; clear HB; have HO355 := n0_; have HO366 := n1_; have HB := n2_; clear n0_ n1_ n2_; (try clear hb); (try clear hb2); (try clear hk); (try clear hi); (try clear ho0)) | ((with_reducible refine gate_dst (N := 12) rfl ?_); (try (refine gate_guard (by rfl) ?_; dsimp only)); refine box_event ?hg (N := 12) ?hd (cs := #[.int .i64 0, .int .i64 0, .int .i64 0, .int .i64 0, .int .i64 0, .int .i64 0, .string (⟨#[]⟩ : ByteArray), .int .i64 0, .slice none 0 0]) (t := 37) ?hr ?_; (case hd => rfl); (case hg => rfl); (case hr => first | (go_simp; done) | (go_simp; rfl)); intro gb367 hg w37 hbox hb; have n0_ := Aside0.mk (Kd.N_below (Kd.N_elderB (Kd.nk HO355) gb367 (Nat.le_of_eq hg.symm)) hb); have n1_ := Aside0.mk (Kd.R_below (Kd.rk HO366) hb); have s_ := step_size_ (gw_ HB) hb hg; have n2_ := Aside0.mk s_.1; have n3_ := Aside0.mk (hbox); have n4_ := Aside0.mk s_.2; clear s_; have n5_ := n4_; clear HO355; clear HO366; clear HB; have HO355 := n0_; have HO366 := n1_; have HB := n2_; have BK367 := n3_; have GW367 := n4_; have GE367 := n5_; clear n0_ n1_ n2_ n3_ n4_ n5_; clear hb hbox hg; obtain ⟨hcz38_0, hcz38_1, hcz38_2, hcz38_3, hcz38_4, hcz38_5, hcz38_6, hcz38_7, hcz38_8⟩ := blk_cells9 BK367.out; obtain ⟨hfz38_0, hfz38_1, hfz38_2, hfz38_3, hfz38_4, hfz38_5, hfz38_6, hfz38_7, hfz38_8⟩ := blk_frozens9 BK367.out; obtain ⟨Ao39, co39, eo39⟩ := Kd.R_slice HO366.out; subst eo39) | ((with_reducible refine gate_callee (f := 11) rfl ?_); refine goesL_ (some 53) rfl rfl Try.func11 (by kernel_rfl) rfl #[.int .i64 a0] rfl (by (try simp only [List.map_toArray, List.map_cons, List.map_nil]); first | done | rfl | (simp only [List.length_drop, List.length_take]; rfl)) ?_; (with_reducible refine (regain_Quorum.calls a0 t368 _ A18.out).mono ?_); rintro e w40 ⟨rfl, hb⟩; refine ⟨_, rfl, ?_⟩; have n0_ := Aside0.mk (Kd.N_below (by (with_reducible repeat (first | apply Kd.N_alloc | apply Kd.N_drewN | apply Kd.N_drew)); exact (Kd.N_mono (Kd.N_far (p := ⟨gb367, 8, none⟩) (Kd.N_far (p := ⟨gb367, 7, none⟩) (Kd.N_far (p := ⟨gb367, 6, none⟩) (Kd.N_far (p := ⟨gb367, 5, none⟩) (Kd.N_far (p := ⟨gb367, 4, none⟩) (Kd.N_far (p := ⟨gb367, 3, none⟩) (Kd.N_far (p := ⟨gb367, 2, none⟩) (Kd.N_far (p := ⟨gb367, 1, none⟩) (Kd.N_far (p := ⟨gb367, 0, none⟩) (Kd.N_mono HO355.out (fun k_ hk => (⟨hk, hk.2⟩ : _ ∧ k_ ≠ gb367))) (fun _ hk => hk.2) (.int .i64 t356)) (fun _ hk => hk.2) (.int .i64 t357)) (fun _ hk => hk.2) (.int .i64 t358)) (fun _ hk => hk.2) (.int .i64 t359)) (fun _ hk => hk.2) (.int .i64 t360)) (fun _ hk => hk.2) (.int .i64 t361)) (fun _ hk => hk.2) (.string t362)) (fun _ hk => hk.2) (.int .i64 t363)) (fun _ hk => hk.2) (.slice Ao39 t364.length co39)) (fun _ h_ => h_.1))) hb); have n1_ := Aside0.mk (Kd.R_below (by (with_reducible repeat (first | apply Kd.R_alloc | apply Kd.R_drewN | apply Kd.R_drew)); exact (Kd.R_mono (Kd.R_far9 (g := gb367) (Kd.R_types HO366.out BK367.out (by decide)) (fun _ hk => hk.2)) (fun _ h_ => h_.1))) hb); have n2_ := Aside0.mk (blk_below (g := gb367) (o := .cells #[.int .i64 t356, .int .i64 t357, .int .i64 t358, .int .i64 t359, .int .i64 t360, .int .i64 t361, .string t362, .int .i64 t363, .slice Ao39 t364.length co39] 37 (0, 0)) (by (with_reducible repeat (first | refine blk_drewN ?_ _ | refine blk_drew ?_ | refine blk_alloc ?_ _)); refine blk_put9 (cs := #[.int .i64 0, .int .i64 0, .int .i64 0, .int .i64 0, .int .i64 0, .int .i64 0, .string (⟨#[]⟩ : ByteArray), .int .i64 0, .slice none 0 0]) ?_ rfl; (with_reducible repeat (first | refine blk_drewN ?_ _ | refine blk_drew ?_ | refine blk_alloc ?_ _)); exact BK367.out) hb); have n3_ := Aside0.mk (below_step (gw_ HB) hb); clear HO355; clear HO366; clear BK367; clear HB; have HO355 := n0_; have HO366 := n1_; have BK367 := n2_; have HB := n3_; clear n0_ n1_ n2_ n3_; (try clear hb); (try clear hb2); (try clear hk); (try clear hi)))
         have n0_ := Aside0.mk (Kd.N_drew HO355.out)
         have n1_ := Aside0.mk (Kd.R_drew HO366.out)
         have n2_ := Aside0.mk (blk_drew BK367.out)
         have n3_ := Aside0.mk (below_drew1 HB.out)
         clear HO355
         clear HO366
         clear BK367
         clear HB
         have HO355 := n0_
         have HO366 := n1_
         have BK367 := n2_
         have HB := n3_
         clear n0_ n1_ n2_ n3_
         have p369 : 0 ≤ (0 : Int) := (by omega)
         have q369 : 0 < (l2.length : Int) := of_decide_eq_true (by first | (with_reducible assumption) | assumption)
         obtain ⟨ad369, A369_13, c369_13, e369, hx369_0, hx369_1, hx369_2, hx369_3, hx369_4, hx369_5, hx369_6, hx369_7, hx369_8, hx369_9, hx369_10, hx369_11, hx369_12, hx369_13, hl369_13, hi369_13⟩ := at_T35 HR2.out 0 p369 q369
         have hw369_13 := hx369_13
         (try rw [show ((0 : Int)).toNat = 0 from rfl] at hw369_13)
         (try rw [show 0 * 14 = 0 from rfl] at hw369_13)
         (try rw [Addr.add_zero'] at hw369_13)
         have hw369_12 := hx369_12
         (try rw [show ((0 : Int)).toNat = 0 from rfl] at hw369_12)
         (try rw [show 0 * 14 = 0 from rfl] at hw369_12)
         (try rw [Addr.add_zero'] at hw369_12)
         have hw369_11 := hx369_11
         (try rw [show ((0 : Int)).toNat = 0 from rfl] at hw369_11)
         (try rw [show 0 * 14 = 0 from rfl] at hw369_11)
         (try rw [Addr.add_zero'] at hw369_11)
         have hw369_10 := hx369_10
         (try rw [show ((0 : Int)).toNat = 0 from rfl] at hw369_10)
         (try rw [show 0 * 14 = 0 from rfl] at hw369_10)
         (try rw [Addr.add_zero'] at hw369_10)
         have hw369_9 := hx369_9
         (try rw [show ((0 : Int)).toNat = 0 from rfl] at hw369_9)
         (try rw [show 0 * 14 = 0 from rfl] at hw369_9)
         (try rw [Addr.add_zero'] at hw369_9)
         have hw369_8 := hx369_8
         (try rw [show ((0 : Int)).toNat = 0 from rfl] at hw369_8)
         (try rw [show 0 * 14 = 0 from rfl] at hw369_8)
         (try rw [Addr.add_zero'] at hw369_8)
         have hw369_7 := hx369_7
         (try rw [show ((0 : Int)).toNat = 0 from rfl] at hw369_7)
         (try rw [show 0 * 14 = 0 from rfl] at hw369_7)
         (try rw [Addr.add_zero'] at hw369_7)
         have hw369_6 := hx369_6
         (try rw [show ((0 : Int)).toNat = 0 from rfl] at hw369_6)
         (try rw [show 0 * 14 = 0 from rfl] at hw369_6)
         (try rw [Addr.add_zero'] at hw369_6)
         have hw369_5 := hx369_5
         (try rw [show ((0 : Int)).toNat = 0 from rfl] at hw369_5)
         (try rw [show 0 * 14 = 0 from rfl] at hw369_5)
         (try rw [Addr.add_zero'] at hw369_5)
         have hw369_4 := hx369_4
         (try rw [show ((0 : Int)).toNat = 0 from rfl] at hw369_4)
         (try rw [show 0 * 14 = 0 from rfl] at hw369_4)
         (try rw [Addr.add_zero'] at hw369_4)
         have hw369_3 := hx369_3
         (try rw [show ((0 : Int)).toNat = 0 from rfl] at hw369_3)
         (try rw [show 0 * 14 = 0 from rfl] at hw369_3)
         (try rw [Addr.add_zero'] at hw369_3)
         have hw369_2 := hx369_2
         (try rw [show ((0 : Int)).toNat = 0 from rfl] at hw369_2)
         (try rw [show 0 * 14 = 0 from rfl] at hw369_2)
         (try rw [Addr.add_zero'] at hw369_2)
         have hw369_1 := hx369_1
         (try rw [show ((0 : Int)).toNat = 0 from rfl] at hw369_1)
         (try rw [show 0 * 14 = 0 from rfl] at hw369_1)
         (try rw [Addr.add_zero'] at hw369_1)
         have hw369_0 := hx369_0
         (try rw [show ((0 : Int)).toNat = 0 from rfl] at hw369_0)
         (try rw [show 0 * 14 = 0 from rfl] at hw369_0)
         (try rw [Addr.add_zero'] at hw369_0)
         cases e369
         have qi369 : (0 < l2.length) = True := eq_true (by omega)
         (try rw [show ((0 : Int)).toNat = 0 from rfl] at hx369_0)
         (try rw [show 0 * 14 = 0 from rfl] at hx369_0)
         (try rw [Addr.add_zero'] at hx369_0)
         (try rw [show ((0 : Int)).toNat = 0 from rfl] at hx369_1)
         (try rw [show 0 * 14 = 0 from rfl] at hx369_1)
         (try rw [Addr.add_zero'] at hx369_1)
         (try rw [show ((0 : Int)).toNat = 0 from rfl] at hx369_2)
         (try rw [show 0 * 14 = 0 from rfl] at hx369_2)
         (try rw [Addr.add_zero'] at hx369_2)
         (try rw [show ((0 : Int)).toNat = 0 from rfl] at hx369_3)
         (try rw [show 0 * 14 = 0 from rfl] at hx369_3)
         (try rw [Addr.add_zero'] at hx369_3)
         (try rw [show ((0 : Int)).toNat = 0 from rfl] at hx369_4)
         (try rw [show 0 * 14 = 0 from rfl] at hx369_4)
         (try rw [Addr.add_zero'] at hx369_4)
         (try rw [show ((0 : Int)).toNat = 0 from rfl] at hx369_5)
         (try rw [show 0 * 14 = 0 from rfl] at hx369_5)
         (try rw [Addr.add_zero'] at hx369_5)
         (try rw [show ((0 : Int)).toNat = 0 from rfl] at hx369_6)
         (try rw [show 0 * 14 = 0 from rfl] at hx369_6)
         (try rw [Addr.add_zero'] at hx369_6)
         (try rw [show ((0 : Int)).toNat = 0 from rfl] at hx369_7)
         (try rw [show 0 * 14 = 0 from rfl] at hx369_7)
         (try rw [Addr.add_zero'] at hx369_7)
         (try rw [show ((0 : Int)).toNat = 0 from rfl] at hx369_8)
         (try rw [show 0 * 14 = 0 from rfl] at hx369_8)
         (try rw [Addr.add_zero'] at hx369_8)
         (try rw [show ((0 : Int)).toNat = 0 from rfl] at hx369_9)
         (try rw [show 0 * 14 = 0 from rfl] at hx369_9)
         (try rw [Addr.add_zero'] at hx369_9)
         (try rw [show ((0 : Int)).toNat = 0 from rfl] at hx369_10)
         (try rw [show 0 * 14 = 0 from rfl] at hx369_10)
         (try rw [Addr.add_zero'] at hx369_10)
         (try rw [show ((0 : Int)).toNat = 0 from rfl] at hx369_11)
         (try rw [show 0 * 14 = 0 from rfl] at hx369_11)
         (try rw [Addr.add_zero'] at hx369_11)
         (try rw [show ((0 : Int)).toNat = 0 from rfl] at hx369_12)
         (try rw [show 0 * 14 = 0 from rfl] at hx369_12)
         (try rw [Addr.add_zero'] at hx369_12)
         (try rw [show ((0 : Int)).toNat = 0 from rfl] at hx369_13)
         (try rw [show 0 * 14 = 0 from rfl] at hx369_13)
         (try rw [Addr.add_zero'] at hx369_13)
         replace hx369_0 := (HB.out.cell (World.block_lt_of_cell? w _ hx369_0)).trans hx369_0
         replace hx369_1 := (HB.out.cell (World.block_lt_of_cell? w _ hx369_1)).trans hx369_1
         replace hx369_2 := (HB.out.cell (World.block_lt_of_cell? w _ hx369_2)).trans hx369_2
         replace hx369_3 := (HB.out.cell (World.block_lt_of_cell? w _ hx369_3)).trans hx369_3
         replace hx369_4 := (HB.out.cell (World.block_lt_of_cell? w _ hx369_4)).trans hx369_4
         replace hx369_5 := (HB.out.cell (World.block_lt_of_cell? w _ hx369_5)).trans hx369_5
         replace hx369_6 := (HB.out.cell (World.block_lt_of_cell? w _ hx369_6)).trans hx369_6
         replace hx369_7 := (HB.out.cell (World.block_lt_of_cell? w _ hx369_7)).trans hx369_7
         replace hx369_8 := (HB.out.cell (World.block_lt_of_cell? w _ hx369_8)).trans hx369_8
         replace hx369_9 := (HB.out.cell (World.block_lt_of_cell? w _ hx369_9)).trans hx369_9
         replace hx369_10 := (HB.out.cell (World.block_lt_of_cell? w _ hx369_10)).trans hx369_10
         replace hx369_11 := (HB.out.cell (World.block_lt_of_cell? w _ hx369_11)).trans hx369_11
         replace hx369_12 := (HB.out.cell (World.block_lt_of_cell? w _ hx369_12)).trans hx369_12
         replace hx369_13 := (HB.out.cell (World.block_lt_of_cell? w _ hx369_13)).trans hx369_13
         have HR369_13 := Aside0.mk hi369_13
         have HC369_13 := Aside0.mk hl369_13
         clear hi369_13 hl369_13
         replace p369 := eq_true p369
         replace q369 := eq_true q369
         refine start_ (n := 9) (S := fun w' => w'.cell? ⟨gb367, 0, none⟩ = some (.int .i64 t356) ∧ w'.cell? ⟨gb367, 1, none⟩ = some (.int .i64 t357) ∧ w'.cell? ⟨gb367, 2, none⟩ = some (.int .i64 t358) ∧ w'.cell? ⟨gb367, 3, none⟩ = some (.int .i64 t359) ∧ w'.cell? ⟨gb367, 4, none⟩ = some (.int .i64 t360) ∧ w'.cell? ⟨gb367, 5, none⟩ = some (.int .i64 t361) ∧ w'.cell? ⟨gb367, 6, none⟩ = some (.string t362) ∧ w'.cell? ⟨gb367, 7, none⟩ = some (.int .i64 t363) ∧ w'.cell? ⟨gb367, 8, none⟩ = some (.slice Ao39 t364.length co39) ∧ w'.cell? ad369 = some (.int .i64 ((rd_T35 l2 0).f0)) ∧ w'.cell? ⟨ad369.block, ad369.off + 1, none⟩ = some (.int .i64 ((rd_T35 l2 0).f1.f0)) ∧ w'.cell? ⟨ad369.block, ad369.off + 2, none⟩ = some (.int .i64 ((rd_T35 l2 0).f1.f1.f0)) ∧ w'.cell? ⟨ad369.block, ad369.off + 3, none⟩ = some (.int .i64 ((rd_T35 l2 0).f1.f1.f1)) ∧ w'.cell? ⟨ad369.block, ad369.off + 4, none⟩ = some (.int .i64 ((rd_T35 l2 0).f1.f2.f0)) ∧ w'.cell? ⟨ad369.block, ad369.off + 5, none⟩ = some (.int .i64 ((rd_T35 l2 0).f1.f2.f1)) ∧ w'.cell? ⟨ad369.block, ad369.off + 6, none⟩ = some (.int .i64 ((rd_T35 l2 0).f1.f3.f0)) ∧ w'.cell? ⟨ad369.block, ad369.off + 7, none⟩ = some (.int .i64 ((rd_T35 l2 0).f1.f3.f1)) ∧ w'.cell? ⟨ad369.block, ad369.off + 8, none⟩ = some (.int .i64 ((rd_T35 l2 0).f1.f3.f2)) ∧ w'.cell? ⟨ad369.block, ad369.off + 9, none⟩ = some (.int .i64 ((rd_T35 l2 0).f1.f3.f3)) ∧ w'.cell? ⟨ad369.block, ad369.off + 10, none⟩ = some (.int .i64 ((rd_T35 l2 0).f1.f3.f4)) ∧ w'.cell? ⟨ad369.block, ad369.off + 11, none⟩ = some (.string ((rd_T35 l2 0).f1.f3.f5)) ∧ w'.cell? ⟨ad369.block, ad369.off + 12, none⟩ = some (.int .i64 ((rd_T35 l2 0).f1.f4.f0)) ∧ w'.cell? ⟨ad369.block, ad369.off + 13, none⟩ = some (.slice A369_13 ((rd_T35 l2 0).f1.f4.f1).length c369_13)) (ds := []) q6_18 (by kernel_rfl) rfl rfl ⟨(blk_cell BK367.out 0).trans rfl, (blk_cell BK367.out 1).trans rfl, (blk_cell BK367.out 2).trans rfl, (blk_cell BK367.out 3).trans rfl, (blk_cell BK367.out 4).trans rfl, (blk_cell BK367.out 5).trans rfl, (blk_cell BK367.out 6).trans rfl, (blk_cell BK367.out 7).trans rfl, (blk_cell BK367.out 8).trans rfl, ((HB.out.cell (World.block_lt_of_cell? w _ hw369_0)).trans hw369_0), ((HB.out.cell (World.block_lt_of_cell? w _ hw369_1)).trans hw369_1), ((HB.out.cell (World.block_lt_of_cell? w _ hw369_2)).trans hw369_2), ((HB.out.cell (World.block_lt_of_cell? w _ hw369_3)).trans hw369_3), ((HB.out.cell (World.block_lt_of_cell? w _ hw369_4)).trans hw369_4), ((HB.out.cell (World.block_lt_of_cell? w _ hw369_5)).trans hw369_5), ((HB.out.cell (World.block_lt_of_cell? w _ hw369_6)).trans hw369_6), ((HB.out.cell (World.block_lt_of_cell? w _ hw369_7)).trans hw369_7), ((HB.out.cell (World.block_lt_of_cell? w _ hw369_8)).trans hw369_8), ((HB.out.cell (World.block_lt_of_cell? w _ hw369_9)).trans hw369_9), ((HB.out.cell (World.block_lt_of_cell? w _ hw369_10)).trans hw369_10), ((HB.out.cell (World.block_lt_of_cell? w _ hw369_11)).trans hw369_11), ((HB.out.cell (World.block_lt_of_cell? w _ hw369_12)).trans hw369_12), ((HB.out.cell (World.block_lt_of_cell? w _ hw369_13)).trans hw369_13)⟩ (fun hHeld => ?_); refine with_tabW colloquylaw10_RegainFast.tab11 colloquylaw10_RegainFast.bits11 (fun HT_ HW_ => ?_)
         generalize w40.drew = w41 at HO355 HO366 BK367 HB HR369_13 hx369_0 hx369_1 hx369_10 hx369_11 hx369_12 hx369_13 hx369_2 hx369_3 hx369_4 hx369_5 hx369_6 hx369_7 hx369_8 hx369_9 hHeld ⊢
         refine pure_ (i := 0) (N := some 58) (v := ?_) (a' := ?_) q6_19 rfl rfl (any_of HT_.out (by kernel_rfl)) (fun _ _ _ h => h) (Or.inl ⟨by rfl, ?_⟩) ?_ ?_
         rotate_left
         ·
          intro w'
          go_simp
          with_reducible rfl
         rotate_left
         ·
          simp only [Act.put, List.setIfInBounds_toArray, List.set_cons_zero, List.set_cons_succ, i64_w, i32_w]
          rfl
         refine pure_ (i := 2) (N := some 60) (v := ?_) (a' := ?_) q6_20 rfl rfl (any_of HT_.out (by kernel_rfl)) (fun _ _ _ h => h) (Or.inl ⟨by rfl, ?_⟩) ?_ ?_
         rotate_left
         ·
          intro w'
          go_simp
          with_reducible rfl
         rotate_left
         ·
          simp only [Act.put, List.setIfInBounds_toArray, List.set_cons_zero, List.set_cons_succ, i64_w, i32_w]
          rfl
         refine pure_ (i := 3) (N := some 61) (v := ?_) (a' := ?_) q6_21 rfl rfl (any_of HT_.out (by kernel_rfl)) (fun _ _ _ h => h) (Or.inl ⟨by rfl, ?_⟩) ?_ ?_
         rotate_left
         ·
          intro w'
          go_simp
          with_reducible rfl
         rotate_left
         ·
          simp only [Act.put, List.setIfInBounds_toArray, List.set_cons_zero, List.set_cons_succ, i64_w, i32_w]
          rfl
         refine pure_ (i := 4) (N := some 62) (v := ?_) (a' := ?_) q6_22 rfl rfl (any_of HT_.out (by kernel_rfl)) (fun _ _ _ h => h) (Or.inl ⟨by rfl, ?_⟩) ?_ ?_
         rotate_left
         ·
          intro w'
          go_simp
          with_reducible rfl
         rotate_left
         ·
          simp only [Act.put, List.setIfInBounds_toArray, List.set_cons_zero, List.set_cons_succ, i64_w, i32_w]
          rfl
         refine pure_ (i := 5) (N := some 63) (v := ?_) (a' := ?_) q6_23 rfl rfl (any_of HT_.out (by kernel_rfl)) (fun _ _ _ h => h) (Or.inl ⟨by rfl, ?_⟩) ?_ ?_
         rotate_left
         ·
          intro w'
          go_simp
          with_reducible rfl
         rotate_left
         ·
          simp only [Act.put, List.setIfInBounds_toArray, List.set_cons_zero, List.set_cons_succ, i64_w, i32_w]
          rfl
         refine take_ (i := 1) (N := some 59) (v := ?_) (a' := ?_) q6_24 rfl rfl (take_ofW HT_.out HW_.out (by kernel_rfl)) (fun _ _ _ h => h) (Or.inl ⟨by rfl, ?_⟩) hHeld ?_ ?_
         rotate_left
         ·
          rintro w' ⟨s0, s1, s2, s3, s4, s5, s6, s7, s8, s9, s10, s11, s12, s13, s14, s15, s16, s17, s18, s19, s20, s21, s22⟩
          go_simp
          with_reducible rfl
         rotate_left
         ·
          simp only [Act.put, List.setIfInBounds_toArray, List.set_cons_zero, List.set_cons_succ, i64_w, i32_w]
          rfl
         refine take_ (i := 6) (N := some 64) (v := ?_) (a' := ?_) q6_25 rfl rfl (take_ofW HT_.out HW_.out (by kernel_rfl)) (fun _ _ _ h => h) (Or.inl ⟨by rfl, ?_⟩) hHeld ?_ ?_
         rotate_left
         ·
          rintro w' ⟨s0, s1, s2, s3, s4, s5, s6, s7, s8, s9, s10, s11, s12, s13, s14, s15, s16, s17, s18, s19, s20, s21, s22⟩
          go_simp
          with_reducible rfl
         rotate_left
         ·
          simp only [Act.put, List.setIfInBounds_toArray, List.set_cons_zero, List.set_cons_succ, i64_w, i32_w]
          rfl
         refine one_ (i := 7) (N := some 65) q6_26 rfl rfl (one_of HT_.out (by kernel_rfl)) (by decide) (fun K hK => ?_)
         refine goes_ Try.func18 (by kernel_rfl) rfl #[.agg #[.int .i64 t363, .slice Ao39 t364.length co39], .agg #[.int .i64 ((rd_T35 l2 0).f1.f4.f0), .slice A369_13 ((rd_T35 l2 0).f1.f4.f1).length c369_13]] (by rfl) rfl rfl (by (try simp only [List.map_toArray, List.map_cons, List.map_nil]); first | done | rfl | (simp only [List.length_drop, List.length_take]; rfl)) ?_
         with_reducible refine (colloquyref06_Same.calls kj6 t363 _ _ t364 ((rd_T35 l2 0).f1.f4.f0) _ _ ((rd_T35 l2 0).f1.f4.f1) t370 _ ?side1 ?side2 ?side3 ?side4 A30.out).mono ?_
         (case side1 => repeat (first | exact (Kd.R_reads' HO366.out).2.2 | (with_reducible refine Kd.C_alloc ?_ _) | (with_reducible refine Kd.C_drewN ?_ _) | (with_reducible refine Kd.C_drew ?_)))
         (case side2 => exact (Kd.R_reads' HO366.out).2.1)
         (case side3 => repeat (first | exact (Kd.C_below HR369_13.out HB.out) | (with_reducible refine Kd.C_alloc ?_ _) | (with_reducible refine Kd.C_drewN ?_ _) | (with_reducible refine Kd.C_drew ?_)))
         (case side4 => exact HC369_13.out)
         rintro e w42 ⟨rfl, hb⟩
         refine ⟨_, rfl, ?_⟩
         have n0_ := Aside0.mk (Kd.N_below (Kd.nk HO355) hb)
         have n1_ := Aside0.mk (Kd.R_below (Kd.rk HO366) hb)
         have n2_ := Aside0.mk (blk_below (g := gb367) (bk BK367) hb)
         have n3_ := Aside0.mk (below_step (gw_ HB) hb)
         clear HO355
         clear HO366
         clear BK367
         clear HB
         have HO355 := n0_
         have HO366 := n1_
         have BK367 := n2_
         have HB := n3_
         clear n0_ n1_ n2_ n3_
         (try clear hb)
         (try clear hb2)
         (try clear hk)
         (try clear hi)
         refine hK.out _ _ ⟨(blk_cell BK367.out 0).trans rfl, (blk_cell BK367.out 1).trans rfl, (blk_cell BK367.out 2).trans rfl, (blk_cell BK367.out 3).trans rfl, (blk_cell BK367.out 4).trans rfl, (blk_cell BK367.out 5).trans rfl, (blk_cell BK367.out 6).trans rfl, (blk_cell BK367.out 7).trans rfl, (blk_cell BK367.out 8).trans rfl, ((HB.out.cell (World.block_lt_of_cell? w _ hw369_0)).trans hw369_0), ((HB.out.cell (World.block_lt_of_cell? w _ hw369_1)).trans hw369_1), ((HB.out.cell (World.block_lt_of_cell? w _ hw369_2)).trans hw369_2), ((HB.out.cell (World.block_lt_of_cell? w _ hw369_3)).trans hw369_3), ((HB.out.cell (World.block_lt_of_cell? w _ hw369_4)).trans hw369_4), ((HB.out.cell (World.block_lt_of_cell? w _ hw369_5)).trans hw369_5), ((HB.out.cell (World.block_lt_of_cell? w _ hw369_6)).trans hw369_6), ((HB.out.cell (World.block_lt_of_cell? w _ hw369_7)).trans hw369_7), ((HB.out.cell (World.block_lt_of_cell? w _ hw369_8)).trans hw369_8), ((HB.out.cell (World.block_lt_of_cell? w _ hw369_9)).trans hw369_9), ((HB.out.cell (World.block_lt_of_cell? w _ hw369_10)).trans hw369_10), ((HB.out.cell (World.block_lt_of_cell? w _ hw369_11)).trans hw369_11), ((HB.out.cell (World.block_lt_of_cell? w _ hw369_12)).trans hw369_12), ((HB.out.cell (World.block_lt_of_cell? w _ hw369_13)).trans hw369_13)⟩ (fun hHeld => ?_)
         clear hK K
         refine norm_ (a' := ?_) ?_ ?_
         rotate_left
         ·
          show Act.put _ (some 65) _ = _
          simp only [Act.put, List.setIfInBounds_toArray, List.set_cons_zero, List.set_cons_succ, i64_w, i32_w]
          rfl
         refine pure_ (i := 8) (N := some 13) (v := ?_) (a' := ?_) q6_27 rfl rfl (any_of HT_.out (by kernel_rfl)) (fun _ _ _ h => h) (Or.inl ⟨by rfl, ?_⟩) ?_ ?_
         rotate_left
         ·
          intro w'
          go_simp
          with_reducible rfl
         rotate_left
         ·
          simp only [Act.put, List.setIfInBounds_toArray, List.set_cons_zero, List.set_cons_succ, i64_w, i32_w]
          rfl
         refine done_ (done_of HT_.out (by kernel_rfl)) ?_
         try go_wp2
         have n0_ := Aside0.mk (Kd.N_drew HO355.out)
         have n1_ := Aside0.mk (Kd.R_drew HO366.out)
         have n2_ := Aside0.mk (blk_drew BK367.out)
         have n3_ := Aside0.mk (below_drew1 HB.out)
         clear HO355
         clear HO366
         clear BK367
         clear HB
         have HO355 := n0_
         have HO366 := n1_
         have BK367 := n2_
         have HB := n3_
         clear n0_ n1_ n2_ n3_
         have p371 : 0 ≤ (0 : Int) := (by omega)
         have q371 : 0 < (l2.length : Int) := of_decide_eq_true (by first | (with_reducible assumption) | assumption)
         obtain ⟨ad371, A371_13, c371_13, e371, hx371_0, hx371_1, hx371_2, hx371_3, hx371_4, hx371_5, hx371_6, hx371_7, hx371_8, hx371_9, hx371_10, hx371_11, hx371_12, hx371_13, hl371_13, hi371_13⟩ := at_T35 HR2.out 0 p371 q371
         have hw371_13 := hx371_13
         (try rw [show ((0 : Int)).toNat = 0 from rfl] at hw371_13)
         (try rw [show 0 * 14 = 0 from rfl] at hw371_13)
         (try rw [Addr.add_zero'] at hw371_13)
         have hw371_12 := hx371_12
         (try rw [show ((0 : Int)).toNat = 0 from rfl] at hw371_12)
         (try rw [show 0 * 14 = 0 from rfl] at hw371_12)
         (try rw [Addr.add_zero'] at hw371_12)
         have hw371_11 := hx371_11
         (try rw [show ((0 : Int)).toNat = 0 from rfl] at hw371_11)
         (try rw [show 0 * 14 = 0 from rfl] at hw371_11)
         (try rw [Addr.add_zero'] at hw371_11)
         have hw371_10 := hx371_10
         (try rw [show ((0 : Int)).toNat = 0 from rfl] at hw371_10)
         (try rw [show 0 * 14 = 0 from rfl] at hw371_10)
         (try rw [Addr.add_zero'] at hw371_10)
         have hw371_9 := hx371_9
         (try rw [show ((0 : Int)).toNat = 0 from rfl] at hw371_9)
         (try rw [show 0 * 14 = 0 from rfl] at hw371_9)
         (try rw [Addr.add_zero'] at hw371_9)
         have hw371_8 := hx371_8
         (try rw [show ((0 : Int)).toNat = 0 from rfl] at hw371_8)
         (try rw [show 0 * 14 = 0 from rfl] at hw371_8)
         (try rw [Addr.add_zero'] at hw371_8)
         have hw371_7 := hx371_7
         (try rw [show ((0 : Int)).toNat = 0 from rfl] at hw371_7)
         (try rw [show 0 * 14 = 0 from rfl] at hw371_7)
         (try rw [Addr.add_zero'] at hw371_7)
         have hw371_6 := hx371_6
         (try rw [show ((0 : Int)).toNat = 0 from rfl] at hw371_6)
         (try rw [show 0 * 14 = 0 from rfl] at hw371_6)
         (try rw [Addr.add_zero'] at hw371_6)
         have hw371_5 := hx371_5
         (try rw [show ((0 : Int)).toNat = 0 from rfl] at hw371_5)
         (try rw [show 0 * 14 = 0 from rfl] at hw371_5)
         (try rw [Addr.add_zero'] at hw371_5)
         have hw371_4 := hx371_4
         (try rw [show ((0 : Int)).toNat = 0 from rfl] at hw371_4)
         (try rw [show 0 * 14 = 0 from rfl] at hw371_4)
         (try rw [Addr.add_zero'] at hw371_4)
         have hw371_3 := hx371_3
         (try rw [show ((0 : Int)).toNat = 0 from rfl] at hw371_3)
         (try rw [show 0 * 14 = 0 from rfl] at hw371_3)
         (try rw [Addr.add_zero'] at hw371_3)
         have hw371_2 := hx371_2
         (try rw [show ((0 : Int)).toNat = 0 from rfl] at hw371_2)
         (try rw [show 0 * 14 = 0 from rfl] at hw371_2)
         (try rw [Addr.add_zero'] at hw371_2)
         have hw371_1 := hx371_1
         (try rw [show ((0 : Int)).toNat = 0 from rfl] at hw371_1)
         (try rw [show 0 * 14 = 0 from rfl] at hw371_1)
         (try rw [Addr.add_zero'] at hw371_1)
         have hw371_0 := hx371_0
         (try rw [show ((0 : Int)).toNat = 0 from rfl] at hw371_0)
         (try rw [show 0 * 14 = 0 from rfl] at hw371_0)
         (try rw [Addr.add_zero'] at hw371_0)
         obtain rfl : ad369 = ad371 := (by injection e371)
         have qi371 : (0 < l2.length) = True := eq_true (by omega)
         (try rw [show ((0 : Int)).toNat = 0 from rfl] at hx371_0)
         (try rw [show 0 * 14 = 0 from rfl] at hx371_0)
         (try rw [Addr.add_zero'] at hx371_0)
         (try rw [show ((0 : Int)).toNat = 0 from rfl] at hx371_1)
         (try rw [show 0 * 14 = 0 from rfl] at hx371_1)
         (try rw [Addr.add_zero'] at hx371_1)
         (try rw [show ((0 : Int)).toNat = 0 from rfl] at hx371_2)
         (try rw [show 0 * 14 = 0 from rfl] at hx371_2)
         (try rw [Addr.add_zero'] at hx371_2)
         (try rw [show ((0 : Int)).toNat = 0 from rfl] at hx371_3)
         (try rw [show 0 * 14 = 0 from rfl] at hx371_3)
         (try rw [Addr.add_zero'] at hx371_3)
         (try rw [show ((0 : Int)).toNat = 0 from rfl] at hx371_4)
         (try rw [show 0 * 14 = 0 from rfl] at hx371_4)
         (try rw [Addr.add_zero'] at hx371_4)
         (try rw [show ((0 : Int)).toNat = 0 from rfl] at hx371_5)
         (try rw [show 0 * 14 = 0 from rfl] at hx371_5)
         (try rw [Addr.add_zero'] at hx371_5)
         (try rw [show ((0 : Int)).toNat = 0 from rfl] at hx371_6)
         (try rw [show 0 * 14 = 0 from rfl] at hx371_6)
         (try rw [Addr.add_zero'] at hx371_6)
         (try rw [show ((0 : Int)).toNat = 0 from rfl] at hx371_7)
         (try rw [show 0 * 14 = 0 from rfl] at hx371_7)
         (try rw [Addr.add_zero'] at hx371_7)
         (try rw [show ((0 : Int)).toNat = 0 from rfl] at hx371_8)
         (try rw [show 0 * 14 = 0 from rfl] at hx371_8)
         (try rw [Addr.add_zero'] at hx371_8)
         (try rw [show ((0 : Int)).toNat = 0 from rfl] at hx371_9)
         (try rw [show 0 * 14 = 0 from rfl] at hx371_9)
         (try rw [Addr.add_zero'] at hx371_9)
         (try rw [show ((0 : Int)).toNat = 0 from rfl] at hx371_10)
         (try rw [show 0 * 14 = 0 from rfl] at hx371_10)
         (try rw [Addr.add_zero'] at hx371_10)
         (try rw [show ((0 : Int)).toNat = 0 from rfl] at hx371_11)
         (try rw [show 0 * 14 = 0 from rfl] at hx371_11)
         (try rw [Addr.add_zero'] at hx371_11)
         (try rw [show ((0 : Int)).toNat = 0 from rfl] at hx371_12)
         (try rw [show 0 * 14 = 0 from rfl] at hx371_12)
         (try rw [Addr.add_zero'] at hx371_12)
         (try rw [show ((0 : Int)).toNat = 0 from rfl] at hx371_13)
         (try rw [show 0 * 14 = 0 from rfl] at hx371_13)
         (try rw [Addr.add_zero'] at hx371_13)
         replace hx371_0 := (HB.out.cell (World.block_lt_of_cell? w _ hx371_0)).trans hx371_0
         replace hx371_1 := (HB.out.cell (World.block_lt_of_cell? w _ hx371_1)).trans hx371_1
         replace hx371_2 := (HB.out.cell (World.block_lt_of_cell? w _ hx371_2)).trans hx371_2
         replace hx371_3 := (HB.out.cell (World.block_lt_of_cell? w _ hx371_3)).trans hx371_3
         replace hx371_4 := (HB.out.cell (World.block_lt_of_cell? w _ hx371_4)).trans hx371_4
         replace hx371_5 := (HB.out.cell (World.block_lt_of_cell? w _ hx371_5)).trans hx371_5
         replace hx371_6 := (HB.out.cell (World.block_lt_of_cell? w _ hx371_6)).trans hx371_6
         replace hx371_7 := (HB.out.cell (World.block_lt_of_cell? w _ hx371_7)).trans hx371_7
         replace hx371_8 := (HB.out.cell (World.block_lt_of_cell? w _ hx371_8)).trans hx371_8
         replace hx371_9 := (HB.out.cell (World.block_lt_of_cell? w _ hx371_9)).trans hx371_9
         replace hx371_10 := (HB.out.cell (World.block_lt_of_cell? w _ hx371_10)).trans hx371_10
         replace hx371_11 := (HB.out.cell (World.block_lt_of_cell? w _ hx371_11)).trans hx371_11
         replace hx371_12 := (HB.out.cell (World.block_lt_of_cell? w _ hx371_12)).trans hx371_12
         replace hx371_13 := (HB.out.cell (World.block_lt_of_cell? w _ hx371_13)).trans hx371_13
         have HR371_13 := Aside0.mk hi371_13
         have HC371_13 := Aside0.mk hl371_13
         clear hi371_13 hl371_13
         replace p371 := eq_true p371
         replace q371 := eq_true q371
         refine start_ (n := 17) (S := fun w' => w'.cell? ⟨gb367, 0, none⟩ = some (.int .i64 t356) ∧ w'.cell? ⟨gb367, 1, none⟩ = some (.int .i64 t357) ∧ w'.cell? ⟨gb367, 2, none⟩ = some (.int .i64 t358) ∧ w'.cell? ⟨gb367, 3, none⟩ = some (.int .i64 t359) ∧ w'.cell? ⟨gb367, 4, none⟩ = some (.int .i64 t360) ∧ w'.cell? ⟨gb367, 5, none⟩ = some (.int .i64 t361) ∧ w'.cell? ⟨gb367, 6, none⟩ = some (.string t362) ∧ w'.cell? ⟨gb367, 7, none⟩ = some (.int .i64 t363) ∧ w'.cell? ⟨gb367, 8, none⟩ = some (.slice Ao39 t364.length co39) ∧ w'.cell? ad369 = some (.int .i64 ((rd_T35 l2 0).f0)) ∧ w'.cell? ⟨ad369.block, ad369.off + 1, none⟩ = some (.int .i64 ((rd_T35 l2 0).f1.f0)) ∧ w'.cell? ⟨ad369.block, ad369.off + 2, none⟩ = some (.int .i64 ((rd_T35 l2 0).f1.f1.f0)) ∧ w'.cell? ⟨ad369.block, ad369.off + 3, none⟩ = some (.int .i64 ((rd_T35 l2 0).f1.f1.f1)) ∧ w'.cell? ⟨ad369.block, ad369.off + 4, none⟩ = some (.int .i64 ((rd_T35 l2 0).f1.f2.f0)) ∧ w'.cell? ⟨ad369.block, ad369.off + 5, none⟩ = some (.int .i64 ((rd_T35 l2 0).f1.f2.f1)) ∧ w'.cell? ⟨ad369.block, ad369.off + 6, none⟩ = some (.int .i64 ((rd_T35 l2 0).f1.f3.f0)) ∧ w'.cell? ⟨ad369.block, ad369.off + 7, none⟩ = some (.int .i64 ((rd_T35 l2 0).f1.f3.f1)) ∧ w'.cell? ⟨ad369.block, ad369.off + 8, none⟩ = some (.int .i64 ((rd_T35 l2 0).f1.f3.f2)) ∧ w'.cell? ⟨ad369.block, ad369.off + 9, none⟩ = some (.int .i64 ((rd_T35 l2 0).f1.f3.f3)) ∧ w'.cell? ⟨ad369.block, ad369.off + 10, none⟩ = some (.int .i64 ((rd_T35 l2 0).f1.f3.f4)) ∧ w'.cell? ⟨ad369.block, ad369.off + 11, none⟩ = some (.string ((rd_T35 l2 0).f1.f3.f5)) ∧ w'.cell? ⟨ad369.block, ad369.off + 12, none⟩ = some (.int .i64 ((rd_T35 l2 0).f1.f4.f0)) ∧ w'.cell? ⟨ad369.block, ad369.off + 13, none⟩ = some (.slice A371_13 ((rd_T35 l2 0).f1.f4.f1).length c371_13)) (ds := []) q6_0 (by kernel_rfl) rfl rfl ⟨(blk_cell BK367.out 0).trans rfl, (blk_cell BK367.out 1).trans rfl, (blk_cell BK367.out 2).trans rfl, (blk_cell BK367.out 3).trans rfl, (blk_cell BK367.out 4).trans rfl, (blk_cell BK367.out 5).trans rfl, (blk_cell BK367.out 6).trans rfl, (blk_cell BK367.out 7).trans rfl, (blk_cell BK367.out 8).trans rfl, ((HB.out.cell (World.block_lt_of_cell? w _ hw371_0)).trans hw371_0), ((HB.out.cell (World.block_lt_of_cell? w _ hw371_1)).trans hw371_1), ((HB.out.cell (World.block_lt_of_cell? w _ hw371_2)).trans hw371_2), ((HB.out.cell (World.block_lt_of_cell? w _ hw371_3)).trans hw371_3), ((HB.out.cell (World.block_lt_of_cell? w _ hw371_4)).trans hw371_4), ((HB.out.cell (World.block_lt_of_cell? w _ hw371_5)).trans hw371_5), ((HB.out.cell (World.block_lt_of_cell? w _ hw371_6)).trans hw371_6), ((HB.out.cell (World.block_lt_of_cell? w _ hw371_7)).trans hw371_7), ((HB.out.cell (World.block_lt_of_cell? w _ hw371_8)).trans hw371_8), ((HB.out.cell (World.block_lt_of_cell? w _ hw371_9)).trans hw371_9), ((HB.out.cell (World.block_lt_of_cell? w _ hw371_10)).trans hw371_10), ((HB.out.cell (World.block_lt_of_cell? w _ hw371_11)).trans hw371_11), ((HB.out.cell (World.block_lt_of_cell? w _ hw371_12)).trans hw371_12), ((HB.out.cell (World.block_lt_of_cell? w _ hw371_13)).trans hw371_13)⟩ (fun hHeld => ?_); refine with_tabW colloquylaw10_RegainFast.tab12 colloquylaw10_RegainFast.bits12 (fun HT_ HW_ => ?_)
         generalize w42.drew = w43 at HO355 HO366 BK367 HB HR371_13 hx371_0 hx371_1 hx371_10 hx371_11 hx371_12 hx371_13 hx371_2 hx371_3 hx371_4 hx371_5 hx371_6 hx371_7 hx371_8 hx371_9 hHeld ⊢
         refine pure_ (i := 0) (N := some 66) (v := ?_) (a' := ?_) q6_1 rfl rfl (any_of HT_.out (by kernel_rfl)) (fun _ _ _ h => h) (Or.inl ⟨by rfl, ?_⟩) ?_ ?_
         rotate_left
         ·
          intro w'
          go_simp
          with_reducible rfl
         rotate_left
         ·
          simp only [Act.put, List.setIfInBounds_toArray, List.set_cons_zero, List.set_cons_succ, i64_w, i32_w]
          rfl
         refine take_ (i := 1) (N := some 67) (v := ?_) (a' := ?_) q6_2 rfl rfl (take_ofW HT_.out HW_.out (by kernel_rfl)) (fun _ _ _ h => h) (Or.inl ⟨by rfl, ?_⟩) hHeld ?_ ?_
         rotate_left
         ·
          rintro w' ⟨s0, s1, s2, s3, s4, s5, s6, s7, s8, s9, s10, s11, s12, s13, s14, s15, s16, s17, s18, s19, s20, s21, s22⟩
          go_simp
          with_reducible rfl
         rotate_left
         ·
          simp only [Act.put, List.setIfInBounds_toArray, List.set_cons_zero, List.set_cons_succ, i64_w, i32_w]
          rfl
         refine pure_ (i := 2) (N := some 68) (v := ?_) (a' := ?_) q6_3 rfl rfl (any_of HT_.out (by kernel_rfl)) (fun _ _ _ h => h) (Or.inl ⟨by rfl, ?_⟩) ?_ ?_
         rotate_left
         ·
          intro w'
          go_simp
          with_reducible rfl
         rotate_left
         ·
          simp only [Act.put, List.setIfInBounds_toArray, List.set_cons_zero, List.set_cons_succ, i64_w, i32_w]
          rfl
         refine pure_ (i := 3) (N := some 69) (v := ?_) (a' := ?_) q6_4 rfl rfl (any_of HT_.out (by kernel_rfl)) (fun _ _ _ h => h) (Or.inl ⟨by rfl, ?_⟩) ?_ ?_
         rotate_left
         ·
          intro w'
          go_simp
          with_reducible rfl
         rotate_left
         ·
          simp only [Act.put, List.setIfInBounds_toArray, List.set_cons_zero, List.set_cons_succ, i64_w, i32_w]
          rfl
         refine pure_ (i := 4) (N := some 70) (v := ?_) (a' := ?_) q6_5 rfl rfl (any_of HT_.out (by kernel_rfl)) (fun _ _ _ h => h) (Or.inl ⟨by rfl, ?_⟩) ?_ ?_
         rotate_left
         ·
          intro w'
          go_simp
          with_reducible rfl
         rotate_left
         ·
          simp only [Act.put, List.setIfInBounds_toArray, List.set_cons_zero, List.set_cons_succ, i64_w, i32_w]
          rfl
         refine pure_ (i := 6) (N := some 72) (v := ?_) (a' := ?_) q6_6 rfl rfl (any_of HT_.out (by kernel_rfl)) (fun _ _ _ h => h) (Or.inl ⟨by rfl, ?_⟩) ?_ ?_
         rotate_left
         ·
          intro w'
          go_simp
          with_reducible rfl
         rotate_left
         ·
          simp only [Act.put, List.setIfInBounds_toArray, List.set_cons_zero, List.set_cons_succ, i64_w, i32_w]
          rfl
         refine pure_ (i := 7) (N := some 73) (v := ?_) (a' := ?_) q6_7 rfl rfl (any_of HT_.out (by kernel_rfl)) (fun _ _ _ h => h) (Or.inl ⟨by rfl, ?_⟩) ?_ ?_
         rotate_left
         ·
          intro w'
          go_simp
          with_reducible rfl
         rotate_left
         ·
          simp only [Act.put, List.setIfInBounds_toArray, List.set_cons_zero, List.set_cons_succ, i64_w, i32_w]
          rfl
         refine pure_ (i := 8) (N := some 74) (v := ?_) (a' := ?_) q6_8 rfl rfl (any_of HT_.out (by kernel_rfl)) (fun _ _ _ h => h) (Or.inl ⟨by rfl, ?_⟩) ?_ ?_
         rotate_left
         ·
          intro w'
          go_simp
          with_reducible rfl
         rotate_left
         ·
          simp only [Act.put, List.setIfInBounds_toArray, List.set_cons_zero, List.set_cons_succ, i64_w, i32_w]
          rfl
         refine pure_ (i := 9) (N := some 75) (v := ?_) (a' := ?_) q6_9 rfl rfl (any_of HT_.out (by kernel_rfl)) (fun _ _ _ h => h) (Or.inl ⟨by rfl, ?_⟩) ?_ ?_
         rotate_left
         ·
          intro w'
          go_simp
          with_reducible rfl
         rotate_left
         ·
          simp only [Act.put, List.setIfInBounds_toArray, List.set_cons_zero, List.set_cons_succ, i64_w, i32_w]
          rfl
         refine take_ (i := 5) (N := some 71) (v := ?_) (a' := ?_) q6_10 rfl rfl (take_ofW HT_.out HW_.out (by kernel_rfl)) (fun _ _ _ h => h) (Or.inl ⟨by rfl, ?_⟩) hHeld ?_ ?_
         rotate_left
         ·
          rintro w' ⟨s0, s1, s2, s3, s4, s5, s6, s7, s8, s9, s10, s11, s12, s13, s14, s15, s16, s17, s18, s19, s20, s21, s22⟩
          go_simp
          with_reducible rfl
         rotate_left
         ·
          simp only [Act.put, List.setIfInBounds_toArray, List.set_cons_zero, List.set_cons_succ, i64_w, i32_w]
          rfl
         refine take_ (i := 10) (N := some 76) (v := ?_) (a' := ?_) q6_11 rfl rfl (take_ofW HT_.out HW_.out (by kernel_rfl)) (fun _ _ _ h => h) (Or.inl ⟨by rfl, ?_⟩) hHeld ?_ ?_
         rotate_left
         ·
          rintro w' ⟨s0, s1, s2, s3, s4, s5, s6, s7, s8, s9, s10, s11, s12, s13, s14, s15, s16, s17, s18, s19, s20, s21, s22⟩
          go_simp
          with_reducible rfl
         rotate_left
         ·
          simp only [Act.put, List.setIfInBounds_toArray, List.set_cons_zero, List.set_cons_succ, i64_w, i32_w]
          rfl
         refine pure_ (i := 11) (N := some 77) (v := ?_) (a' := ?_) q6_12 rfl rfl (any_of HT_.out (by kernel_rfl)) (fun _ _ _ h => h) (Or.inl ⟨by rfl, ?_⟩) ?_ ?_
         rotate_left
         ·
          intro w'
          go_simp
          with_reducible rfl
         rotate_left
         ·
          simp only [Act.put, List.setIfInBounds_toArray, List.set_cons_zero, List.set_cons_succ, i64_w, i32_w]
          rfl
         refine pure_ (i := 12) (N := some 78) (v := ?_) (a' := ?_) q6_13 rfl rfl (any_of HT_.out (by kernel_rfl)) (fun _ _ _ h => h) (Or.inl ⟨by rfl, ?_⟩) ?_ ?_
         rotate_left
         ·
          intro w'
          go_simp
          with_reducible rfl
         rotate_left
         ·
          simp only [Act.put, List.setIfInBounds_toArray, List.set_cons_zero, List.set_cons_succ, i64_w, i32_w]
          rfl
         refine pure_ (i := 13) (N := some 79) (v := ?_) (a' := ?_) q6_14 rfl rfl (any_of HT_.out (by kernel_rfl)) (fun _ _ _ h => h) (Or.inl ⟨by rfl, ?_⟩) ?_ ?_
         rotate_left
         ·
          intro w'
          go_simp
          with_reducible rfl
         rotate_left
         ·
          simp only [Act.put, List.setIfInBounds_toArray, List.set_cons_zero, List.set_cons_succ, i64_w, i32_w]
          rfl
         refine pure_ (i := 14) (N := some 80) (v := ?_) (a' := ?_) q6_15 rfl rfl (any_of HT_.out (by kernel_rfl)) (fun _ _ _ h => h) (Or.inl ⟨by rfl, ?_⟩) ?_ ?_
         rotate_left
         ·
          intro w'
          go_simp
          with_reducible rfl
         rotate_left
         ·
          simp only [Act.put, List.setIfInBounds_toArray, List.set_cons_zero, List.set_cons_succ, i64_w, i32_w]
          rfl
         refine pure_ (i := 15) (N := some 81) (v := ?_) (a' := ?_) q6_16 rfl rfl (any_of HT_.out (by kernel_rfl)) (fun _ _ _ h => h) (Or.inl ⟨by rfl, ?_⟩) ?_ ?_
         rotate_left
         ·
          intro w'
          go_simp
          with_reducible rfl
         rotate_left
         ·
          simp only [Act.put, List.setIfInBounds_toArray, List.set_cons_zero, List.set_cons_succ, i64_w, i32_w]
          rfl
         refine pure_ (i := 16) (N := some 8) (v := ?_) (a' := ?_) q6_17 rfl rfl (any_of HT_.out (by kernel_rfl)) (fun _ _ _ h => h) (Or.inl ⟨by rfl, ?_⟩) ?_ ?_
         rotate_left
         ·
          intro w'
          go_simp
          with_reducible rfl
         rotate_left
         ·
          simp only [Act.put, List.setIfInBounds_toArray, List.set_cons_zero, List.set_cons_succ, i64_w, i32_w]
          rfl
         refine done_ (done_of HT_.out (by kernel_rfl)) ?_
         try go_wp2
         go_ret
         exact ⟨by first | rfl | (simp [errW_none, errW_some] <;> rfl) | (simp [*, errW_none, errW_some] <;> rfl), gw_ HB⟩
        ·
         rw [if_neg c32] at H
         have c32b0 : (t357 == ((rd_T35 l2 0).f1.f3.f0) && (t358 == ((rd_T35 l2 0).f1.f3.f1) && (t359 == ((rd_T35 l2 0).f1.f3.f2) && (t360 == ((rd_T35 l2 0).f1.f3.f3) && (t361 == ((rd_T35 l2 0).f1.f3.f4) && (t362.toList == (((rd_T35 l2 0).f1.f3.f5).toList))))))) = false := by simpa using c32
         (try (have c32b1 : decide (t357 = ((rd_T35 l2 0).f1.f3.f0) && (t358 == ((rd_T35 l2 0).f1.f3.f1) && (t359 == ((rd_T35 l2 0).f1.f3.f2) && (t360 == ((rd_T35 l2 0).f1.f3.f3) && (t361 == ((rd_T35 l2 0).f1.f3.f4) && (t362.toList == (((rd_T35 l2 0).f1.f3.f5).toList))))))) = false := by simpa using c32))
         (try (have c32b2 : (t357 == ((rd_T35 l2 0).f1.f3.f0) && (t358 == ((rd_T35 l2 0).f1.f3.f1) && (t359 == ((rd_T35 l2 0).f1.f3.f2) && (t360 == ((rd_T35 l2 0).f1.f3.f3) && (t361 == ((rd_T35 l2 0).f1.f3.f4) && (t362.toList == (((rd_T35 l2 0).f1.f3.f5).toList))))))) = false := by simpa using c32))
         (try (have c32b3 : ¬ (t357 = ((rd_T35 l2 0).f1.f3.f0) && (t358 == ((rd_T35 l2 0).f1.f3.f1) && (t359 == ((rd_T35 l2 0).f1.f3.f2) && (t360 == ((rd_T35 l2 0).f1.f3.f3) && (t361 == ((rd_T35 l2 0).f1.f3.f4) && (t362.toList == (((rd_T35 l2 0).f1.f3.f5).toList))))))) := by simpa using c32))
         clear c32
         exact absurd (Option.some.inj H) (by rw [HRT.out]; decide)
       ·
        rw [if_neg c31] at H
        have c31b0 : (t356 == 2) = false := beq_eq_false_iff_ne.mpr c31
        have c31b1 : (t356 != 2) = true := bne_iff_ne.mpr c31
        exact absurd (Option.some.inj H) (by rw [HRT.out]; decide)
      ·
       rw [if_neg c29] at H
       exact absurd H (by simp)
    ·
     replace c15 := Bool.eq_false_iff.mpr c15
     subst c15
     have H1 : (some true) = some r := by rw [if_neg (show ¬ (false = true) by decide)] at H; exact H
     clear H
     have H := H1
     clear H1
     obtain rfl := Option.some.inj H
     go_wp2_with (first | ((with_reducible refine gate_callee (f := 15) rfl ?_); refine goesL_ (some 41) rfl rfl Try.func15 (by kernel_rfl) rfl #[.int .i64 a0, .int .i64 a1, .slice A2 l2.length c2] rfl (by (try simp only [List.map_toArray, List.map_cons, List.map_nil]); first | done | rfl | (simp only [List.length_drop, List.length_take]; rfl)) ?_; (with_reducible refine (regain_Fast.calls a0 a1 _ _ l2 false _ ?side1 ?side2 A14.out).mono ?_); (case side1 => repeat (first | exact (Kd.C_below HR2.out HB.out) | (with_reducible refine Kd.C_alloc ?_ _) | (with_reducible refine Kd.C_drewN ?_ _) | (with_reducible refine Kd.C_drew ?_))); (case side2 => exact HC2.out); rintro e w44 ⟨rfl, hb⟩; refine ⟨_, rfl, ?_⟩; have n0_ := Aside0.mk (below_step (gw_ HB) hb); clear HB; have HB := n0_; clear n0_; (try clear hb); (try clear hb2); (try clear hk); (try clear hi)))
     go_ret
     exact ⟨by first | rfl | (simp [errW_none, errW_some] <;> rfl) | (simp [*, errW_none, errW_some] <;> rfl), gw_ HB⟩

end Go.Proofs.Ytomgiaakhpemaaa.P
