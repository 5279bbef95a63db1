/- Plain Lean functions and their contracts over the translation, written by a program of this session (myprint.py, over the kit's print); no condition but each contract's own. -/
import Derived.Test.YtlobedghenflfaaPx0
import Derived.Test.YtlobedghenflfaaPx1
import Derived.Test.YtlobedghenflfaaPx3
namespace Go.Proofs.Ytlobedghenflfaa.P
open Go.RowKit Go.Proofs.YtlobedghenflfaaW.PrintWords Go.Proofs.YtlobedghenflfaaW.PrintLast Go.Proofs.YtlobedghenflfaaW.PrintMore
attribute [local go_sem] max2_int min2_int max_two min_two max_three min_three max_four min_four   -- for this text's walks alone
set_option linter.unusedVariables false
set_option linter.unusedSimpArgs false

/-! ### colloquylaw13_ScoreWhole: function 11 -/
mutual
def colloquylaw13_ScoreWhole.j0 : Nat → Int → Int → Bool → Bool → Option (Bool)
  | 0, _, _, _, _ => none
  | k + 1, x0, x1, x5, x40 => if x40 = true then (some x5) else ((score_Of.f x0).bind fun t162 => ((score_Floor.f t162).bind fun bt163 => ((score_Quotient.f (wrap64 (x0 * x1)) x1).bind fun t165 => ((score_Floor.f t165).bind fun bt166 => (if x0 < x1 then (colloquylaw13_ScoreWhole.j1 k x0 x1 bt163.1 bt163.2 bt166.1 bt166.2 (-1)) else (colloquylaw13_ScoreWhole.j1 k x0 x1 bt163.1 bt163.2 bt166.1 bt166.2 0))))))
def colloquylaw13_ScoreWhole.j1 : Nat → Int → Int → Int → Bool → Int → Bool → Int → Option (Bool)
  | 0, _, _, _, _, _, _, _ => none
  | k + 1, x0, x1, x7, x8, x9, x10, x11 => if x0 > x1 then (if x8 = true then (if x10 = true then (if x7 = x0 then (if x9 = x0 then ((score_Of.f x0).bind fun t168 => ((score_Of.f x1).bind fun t169 => ((score_Cmp.f t168 t169).bind fun t170 => (some (t170 == 1))))) else (some false)) else (some false)) else (some false)) else (some false)) else (if x8 = true then (if x10 = true then (if x7 = x0 then (if x9 = x0 then ((score_Of.f x0).bind fun t171 => ((score_Of.f x1).bind fun t172 => ((score_Cmp.f t171 t172).bind fun t173 => (some (t173 == x11))))) else (some false)) else (some false)) else (some false)) else (some false))
end
def colloquylaw13_ScoreWhole.f (k : Nat) (a0 : Int) (a1 : Int) : Option (Bool) := (colloquylaw13_awake.f).bind fun t161 => (if t161 = true then (if a0 < (-67108864) then (colloquylaw13_ScoreWhole.j0 k a0 a1 t161 true) else (if a0 > 67108864 then (colloquylaw13_ScoreWhole.j0 k a0 a1 t161 true) else (if a1 < (-67108864) then (colloquylaw13_ScoreWhole.j0 k a0 a1 t161 true) else (if a1 > 67108864 then (colloquylaw13_ScoreWhole.j0 k a0 a1 t161 true) else (colloquylaw13_ScoreWhole.j0 k a0 a1 t161 (a1 == 0)))))) else (colloquylaw13_ScoreWhole.j0 k a0 a1 t161 true))
theorem colloquylaw13_ScoreWhole.mono_l : ∀ k, (∀ y0 y1 y2 y3, LeO (colloquylaw13_ScoreWhole.j0 k y0 y1 y2 y3) (colloquylaw13_ScoreWhole.j0 (k + 1) y0 y1 y2 y3)) ∧ (∀ y0 y1 y2 y3 y4 y5 y6, LeO (colloquylaw13_ScoreWhole.j1 k y0 y1 y2 y3 y4 y5 y6) (colloquylaw13_ScoreWhole.j1 (k + 1) y0 y1 y2 y3 y4 y5 y6))
  | 0 => ⟨fun _ _ _ _ r h => by simp [colloquylaw13_ScoreWhole.j0] at h, fun _ _ _ _ _ _ _ r h => by simp [colloquylaw13_ScoreWhole.j1] at h⟩
  | k + 1 => by
    obtain ⟨ih0, ih1⟩ := colloquylaw13_ScoreWhole.mono_l k
    refine ⟨?_, ?_⟩
    · intro y0 y1 y2 y3
      unfold colloquylaw13_ScoreWhole.j0
      repeat' first
      | (with_reducible exact ih0 _ _ _ _)
      | (with_reducible exact ih1 _ _ _ _ _ _ _)
      | (with_reducible exact LeO.refl _)
      | (with_reducible exact LeO.none _)
      | (with_reducible refine LeO.ite ?_ ?_)
      | (with_reducible refine LeO.bind ?_ (fun _ => ?_))
      | exact ih0 _ _ _ _
      | exact ih1 _ _ _ _ _ _ _
      | exact LeO.none _
      | refine LeO.ite ?_ ?_
      | refine LeO.bind ?_ (fun _ => ?_)
    · intro y0 y1 y2 y3 y4 y5 y6
      unfold colloquylaw13_ScoreWhole.j1
      repeat' first
      | (with_reducible exact ih0 _ _ _ _)
      | (with_reducible exact ih1 _ _ _ _ _ _ _)
      | (with_reducible exact LeO.refl _)
      | (with_reducible exact LeO.none _)
      | (with_reducible refine LeO.ite ?_ ?_)
      | (with_reducible refine LeO.bind ?_ (fun _ => ?_))
      | exact ih0 _ _ _ _
      | exact ih1 _ _ _ _ _ _ _
      | exact LeO.none _
      | refine LeO.ite ?_ ?_
      | refine LeO.bind ?_ (fun _ => ?_)
theorem colloquylaw13_ScoreWhole.mono : ∀ a0 a1 k, LeO (colloquylaw13_ScoreWhole.f k a0 a1) (colloquylaw13_ScoreWhole.f (k + 1) a0 a1) := by
  intro a0 a1 k
  obtain ⟨ih0, ih1⟩ := colloquylaw13_ScoreWhole.mono_l k
  unfold colloquylaw13_ScoreWhole.f
  repeat' first
      | (with_reducible exact ih0 _ _ _ _)
      | (with_reducible exact ih1 _ _ _ _ _ _ _)
      | (with_reducible exact LeO.refl _)
      | (with_reducible exact LeO.none _)
      | (with_reducible refine LeO.ite ?_ ?_)
      | (with_reducible refine LeO.bind ?_ (fun _ => ?_))
      | exact ih0 _ _ _ _
      | exact ih1 _ _ _ _ _ _ _
      | exact LeO.none _
      | refine LeO.ite ?_ ?_
      | refine LeO.bind ?_ (fun _ => ?_)
set_option maxHeartbeats 8000000 in
set_option maxRecDepth 100000 in
theorem colloquylaw13_ScoreWhole.calls (k : Nat) (a0 : Int) (a1 : Int) (r : Bool) (w : World) (hrt : r = true) (h : colloquylaw13_ScoreWhole.f k a0 a1 = some r) :
    Calls Try.prog 11 #[.int .i64 a0, .int .i64 a1] w fun e w' => e = .returned (.bool r) ∧ Drawn0 w w' := by
  have HRT := Aside0.mk hrt
  clear hrt
  have H : ((colloquylaw13_awake.f).bind fun t161 => (if t161 = true then (if a0 < (-67108864) then (colloquylaw13_ScoreWhole.j0 k a0 a1 t161 true) else (if a0 > 67108864 then (colloquylaw13_ScoreWhole.j0 k a0 a1 t161 true) else (if a1 < (-67108864) then (colloquylaw13_ScoreWhole.j0 k a0 a1 t161 true) else (if a1 > 67108864 then (colloquylaw13_ScoreWhole.j0 k a0 a1 t161 true) else (colloquylaw13_ScoreWhole.j0 k a0 a1 t161 (a1 == 0)))))) else (colloquylaw13_ScoreWhole.j0 k a0 a1 t161 true))) = some r := h
  clear h
  replace H := Option.bind_eq_some_iff.mp H
  obtain ⟨t161, A30, H⟩ := H
  replace H : (if t161 = true then (if a0 < (-67108864) then (colloquylaw13_ScoreWhole.j0 k a0 a1 t161 true) else (if a0 > 67108864 then (colloquylaw13_ScoreWhole.j0 k a0 a1 t161 true) else (if a1 < (-67108864) then (colloquylaw13_ScoreWhole.j0 k a0 a1 t161 true) else (if a1 > 67108864 then (colloquylaw13_ScoreWhole.j0 k a0 a1 t161 true) else (colloquylaw13_ScoreWhole.j0 k a0 a1 t161 (a1 == 0)))))) else (colloquylaw13_ScoreWhole.j0 k a0 a1 t161 true)) = some r := H
  have A3 := Aside0.mk A30
  clear A30
  have HC4 := Aside0.mk H
  clear H
  go_enter Try.func11, Try.ntmps11
  go_upto_region 3 with (first | ((with_reducible refine gate_callee (f := 12) rfl ?_); refine goesL_ (some 12) rfl rfl Try.func12 (by kernel_rfl) rfl #[] rfl (by (try simp only [List.map_toArray, List.map_cons, List.map_nil]); first | done | rfl | (simp only [List.length_drop, List.length_take]; rfl)) ?_; (with_reducible refine (colloquylaw13_awake.calls  t161 _ A3.out).mono ?_); rintro e w' ⟨rfl, ⟨nd, rfl⟩⟩; refine ⟨_, rfl, ?_⟩))
  (try simp only [Act.put, List.setIfInBounds_toArray, List.set_cons_zero, List.set_cons_succ])
  go_cut [40] (fun v40 wc => ∃ (kq : Nat) (x40_3 : Bool), v40 = .bool x40_3 ∧ Aside0 (colloquylaw13_ScoreWhole.j0 kq a0 a1 t161 x40_3 = some r) ∧ Aside0 (kq ≤ k) ∧ Drawn0 w wc)
  case first =>
    have H := HC4.out
    clear HC4
    by_cases c5 : t161 = true
    · subst c5
      have H1 : (if a0 < (-67108864) then (colloquylaw13_ScoreWhole.j0 k a0 a1 true true) else (if a0 > 67108864 then (colloquylaw13_ScoreWhole.j0 k a0 a1 true true) else (if a1 < (-67108864) then (colloquylaw13_ScoreWhole.j0 k a0 a1 true true) else (if a1 > 67108864 then (colloquylaw13_ScoreWhole.j0 k a0 a1 true true) else (colloquylaw13_ScoreWhole.j0 k a0 a1 true (a1 == 0)))))) = some r := by rw [if_pos rfl] at H; exact H
      clear H
      have H := H1
      clear H1
      by_cases c6 : a0 < (-67108864)
      · rw [if_pos c6] at H
        have c6b0 : decide (a0 < (-67108864)) = true := decide_eq_true c6
        clear c6
        (first | rw [c6b0] | (simp only [i64_w, i32_w]; rw [c6b0]) | skip)
        have H' := Aside0.mk H
        clear H
        go_wp2
        go_meet
        case rel => exact ⟨_, (true), (by first | rfl | (simp; done) | (simp [*]; done)), H', ⟨by first | omega | exact Nat.le_refl _⟩, by repeat (first | exact Drawn0.refl _ | apply Drawn0.step)⟩
      · rw [if_neg c6] at H
        have c6b0 : decide (a0 < (-67108864)) = false := decide_eq_false c6
        clear c6
        (first | rw [c6b0] | (simp only [i64_w, i32_w]; rw [c6b0]) | skip)
        by_cases c7 : a0 > 67108864
        · rw [if_pos c7] at H
          have c7b0 : decide (67108864 < a0) = true := decide_eq_true c7
          clear c7
          have H' := Aside0.mk H
          clear H
          go_wp2
          go_meet
          case rel => exact ⟨_, (true), (by first | rfl | (simp; done) | (simp [*]; done)), H', ⟨by first | omega | exact Nat.le_refl _⟩, by repeat (first | exact Drawn0.refl _ | apply Drawn0.step)⟩
        · rw [if_neg c7] at H
          have c7b0 : decide (67108864 < a0) = false := decide_eq_false c7
          clear c7
          by_cases c8 : a1 < (-67108864)
          · rw [if_pos c8] at H
            have c8b0 : decide (a1 < (-67108864)) = true := decide_eq_true c8
            clear c8
            have H' := Aside0.mk H
            clear H
            go_wp2
            go_meet
            case rel => exact ⟨_, (true), (by first | rfl | (simp; done) | (simp [*]; done)), H', ⟨by first | omega | exact Nat.le_refl _⟩, by repeat (first | exact Drawn0.refl _ | apply Drawn0.step)⟩
          · rw [if_neg c8] at H
            have c8b0 : decide (a1 < (-67108864)) = false := decide_eq_false c8
            clear c8
            by_cases c9 : a1 > 67108864
            · rw [if_pos c9] at H
              have c9b0 : decide (67108864 < a1) = true := decide_eq_true c9
              clear c9
              have H' := Aside0.mk H
              clear H
              go_wp2
              go_meet
              case rel => exact ⟨_, (true), (by first | rfl | (simp; done) | (simp [*]; done)), H', ⟨by first | omega | exact Nat.le_refl _⟩, by repeat (first | exact Drawn0.refl _ | apply Drawn0.step)⟩
            · rw [if_neg c9] at H
              have c9b0 : decide (67108864 < a1) = false := decide_eq_false c9
              clear c9
              have H' := Aside0.mk H
              clear H
              go_wp2
              go_meet
              case rel => exact ⟨_, ((a1 == 0)), (by first | rfl | (simp; done) | (simp [*]; done)), H', ⟨by first | omega | exact Nat.le_refl _⟩, by repeat (first | exact Drawn0.refl _ | apply Drawn0.step)⟩
    · replace c5 := Bool.eq_false_iff.mpr c5
      subst c5
      have H1 : (colloquylaw13_ScoreWhole.j0 k a0 a1 false true) = some r := by rw [if_neg (show ¬ (false = true) by decide)] at H; exact H
      clear H
      have H := H1
      clear H1
      have H' := Aside0.mk H
      clear H
      go_wp2
      go_meet
      case rel => exact ⟨_, (true), (by first | rfl | (simp; done) | (simp [*]; done)), H', ⟨by first | omega | exact Nat.le_refl _⟩, by repeat (first | exact Drawn0.refl _ | apply Drawn0.step)⟩
  case rest =>
    clear HC4
    try clear c1
    try clear p2
    try clear c5
    try clear c6
    try clear c6b0
    try clear c7
    try clear c7b0
    try clear c8
    try clear c8b0
    try clear c9
    try clear c9b0
    obtain ⟨kq, x40_3, rfl, HA, HJ3, ⟨mc3, rfl⟩⟩ := hcut
    cases kq with
    | zero => exact absurd HA.out (by simp [colloquylaw13_ScoreWhole.j0])
    | succ kj3 =>
      have H := HA.out
      clear HA
      simp only [colloquylaw13_ScoreWhole.j0] at H
      by_cases c10 : x40_3 = true
      · subst c10
        have H1 : (some t161) = some r := by rw [if_pos rfl] at H; exact H
        clear H
        have H := H1
        clear H1
        obtain rfl := Option.some.inj H
        go_wp2
        go_ret
        exact ⟨by first | rfl | (simp; done) | (simp [*]; done), by repeat (first | exact Drawn0.refl _ | apply Drawn0.step)⟩
      · replace c10 := Bool.eq_false_iff.mpr c10
        subst c10
        have H1 : ((score_Of.f a0).bind fun t162 => ((score_Floor.f t162).bind fun bt163 => ((score_Quotient.f (wrap64 (a0 * a1)) a1).bind fun t165 => ((score_Floor.f t165).bind fun bt166 => (if a0 < a1 then (colloquylaw13_ScoreWhole.j1 kj3 a0 a1 bt163.1 bt163.2 bt166.1 bt166.2 (-1)) else (colloquylaw13_ScoreWhole.j1 kj3 a0 a1 bt163.1 bt163.2 bt166.1 bt166.2 0)))))) = some r := by rw [if_neg (show ¬ (false = true) by decide)] at H; exact H
        clear H
        have H := H1
        clear H1
        replace H := Option.bind_eq_some_iff.mp H
        obtain ⟨t162, A110, H⟩ := H
        replace H : ((score_Floor.f t162).bind fun bt163 => ((score_Quotient.f (wrap64 (a0 * a1)) a1).bind fun t165 => ((score_Floor.f t165).bind fun bt166 => (if a0 < a1 then (colloquylaw13_ScoreWhole.j1 kj3 a0 a1 bt163.1 bt163.2 bt166.1 bt166.2 (-1)) else (colloquylaw13_ScoreWhole.j1 kj3 a0 a1 bt163.1 bt163.2 bt166.1 bt166.2 0))))) = some r := H
        have A11 := Aside0.mk A110
        clear A110
        replace H := Option.bind_eq_some_iff.mp H
        obtain ⟨⟨t163, t164⟩, A120, H⟩ := H
        replace H : ((score_Quotient.f (wrap64 (a0 * a1)) a1).bind fun t165 => ((score_Floor.f t165).bind fun bt166 => (if a0 < a1 then (colloquylaw13_ScoreWhole.j1 kj3 a0 a1 t163 t164 bt166.1 bt166.2 (-1)) else (colloquylaw13_ScoreWhole.j1 kj3 a0 a1 t163 t164 bt166.1 bt166.2 0)))) = some r := H
        have A12 := Aside0.mk A120
        clear A120
        replace H := Option.bind_eq_some_iff.mp H
        obtain ⟨t165, A130, H⟩ := H
        replace H : ((score_Floor.f t165).bind fun bt166 => (if a0 < a1 then (colloquylaw13_ScoreWhole.j1 kj3 a0 a1 t163 t164 bt166.1 bt166.2 (-1)) else (colloquylaw13_ScoreWhole.j1 kj3 a0 a1 t163 t164 bt166.1 bt166.2 0))) = some r := H
        have A13 := Aside0.mk A130
        clear A130
        replace H := Option.bind_eq_some_iff.mp H
        obtain ⟨⟨t166, t167⟩, A140, H⟩ := H
        replace H : (if a0 < a1 then (colloquylaw13_ScoreWhole.j1 kj3 a0 a1 t163 t164 t166 t167 (-1)) else (colloquylaw13_ScoreWhole.j1 kj3 a0 a1 t163 t164 t166 t167 0)) = some r := H
        have A14 := Aside0.mk A140
        clear A140
        have HC15 := Aside0.mk H
        clear H
        go_upto_if 59 with (first | ((with_reducible refine gate_callee (f := 22) rfl ?_); refine goesL_ (some 44) rfl rfl Try.func22 (by kernel_rfl) rfl #[.int .i64 a0] rfl (by (try simp only [List.map_toArray, List.map_cons, List.map_nil]); first | done | rfl | (simp only [List.length_drop, List.length_take]; rfl)) ?_; (with_reducible refine (score_Of.calls a0 t162 _ A11.out).mono ?_); rintro e w' ⟨rfl, ⟨nd, rfl⟩⟩; refine ⟨_, rfl, ?_⟩) | ((with_reducible refine gate_callee (f := 13) rfl ?_); refine goesL_ (some 45) rfl rfl Try.func13 (by kernel_rfl) rfl #[.int .u64 t162] rfl (by (try simp only [List.map_toArray, List.map_cons, List.map_nil]); first | done | rfl | (simp only [List.length_drop, List.length_take]; rfl)) ?_; (with_reducible refine (score_Floor.calls t162 t163 t164 _ A12.out).mono ?_); rintro e w' ⟨rfl, ⟨nd, rfl⟩⟩; refine ⟨_, rfl, ?_⟩) | ((with_reducible refine gate_callee (f := 20) rfl ?_); refine goesL_ (some 53) rfl rfl Try.func20 (by kernel_rfl) rfl #[.int .i64 (wrap64 (a0 * a1)), .int .i64 a1] rfl (by (try simp only [List.map_toArray, List.map_cons, List.map_nil]); first | done | rfl | (simp only [List.length_drop, List.length_take]; rfl)) ?_; (with_reducible refine (score_Quotient.calls (wrap64 (a0 * a1)) a1 t165 _ A13.out).mono ?_); rintro e w' ⟨rfl, ⟨nd, rfl⟩⟩; refine ⟨_, rfl, ?_⟩) | ((with_reducible refine gate_callee (f := 13) rfl ?_); refine goesL_ (some 54) rfl rfl Try.func13 (by kernel_rfl) rfl #[.int .u64 t165] rfl (by (try simp only [List.map_toArray, List.map_cons, List.map_nil]); first | done | rfl | (simp only [List.length_drop, List.length_take]; rfl)) ?_; (with_reducible refine (score_Floor.calls t165 t166 t167 _ A14.out).mono ?_); rintro e w' ⟨rfl, ⟨nd, rfl⟩⟩; refine ⟨_, rfl, ?_⟩))
        (try simp only [Act.put, List.setIfInBounds_toArray, List.set_cons_zero, List.set_cons_succ])
        go_cut [11] (fun v11 wc => ∃ (kq : Nat) (x11_14 : Int), v11 = .int .i64 x11_14 ∧ Aside0 (colloquylaw13_ScoreWhole.j1 kq a0 a1 t163 t164 t166 t167 x11_14 = some r) ∧ Aside0 (kq ≤ kj3) ∧ Drawn0 w wc)
        case first =>
          have H := HC15.out
          clear HC15
          by_cases c16 : a0 < a1
          · rw [if_pos c16] at H
            have c16b0 : decide (a0 < a1) = true := decide_eq_true c16
            clear c16
            (first | rw [c16b0] | (simp only [i64_w, i32_w]; rw [c16b0]) | skip)
            have H' := Aside0.mk H
            clear H
            go_wp2
            go_meet
            case rel => exact ⟨_, ((-1)), (by first | rfl | (simp; done) | (simp [*]; done)), H', ⟨by have := HJ3.out; first | omega | exact Nat.le_refl _⟩, by repeat (first | exact Drawn0.refl _ | apply Drawn0.step)⟩
          · rw [if_neg c16] at H
            have c16b0 : decide (a0 < a1) = false := decide_eq_false c16
            clear c16
            (first | rw [c16b0] | (simp only [i64_w, i32_w]; rw [c16b0]) | skip)
            have H' := Aside0.mk H
            clear H
            go_wp2
            go_meet
            case rel => exact ⟨_, (0), (by first | rfl | (simp; done) | (simp [*]; done)), H', ⟨by have := HJ3.out; first | omega | exact Nat.le_refl _⟩, by repeat (first | exact Drawn0.refl _ | apply Drawn0.step)⟩
        case rest =>
          clear HC15
          try clear c1
          try clear c2
          try clear p2
          try clear c3
          try clear c5
          try clear c6
          try clear c6b0
          try clear p6
          try clear c7
          try clear c7b0
          try clear c8
          try clear c8b0
          try clear c9
          try clear c9b0
          try clear c10
          try clear c11
          try clear c12
          try clear c13
          try clear c16
          try clear c16b0
          try clear p2
          obtain ⟨kq, x11_14, rfl, HA, HJ14, ⟨mc14, rfl⟩⟩ := hcut
          cases kq with
          | zero => exact absurd HA.out (by simp [colloquylaw13_ScoreWhole.j1])
          | succ kj14 =>
            have H := HA.out
            clear HA
            simp only [colloquylaw13_ScoreWhole.j1] at H
            by_cases c17 : a0 > a1
            · rw [if_pos c17] at H
              have c17b0 : decide (a1 < a0) = true := decide_eq_true c17
              clear c17
              by_cases c18 : t164 = true
              · subst c18
                have H1 : (if t167 = true then (if t163 = a0 then (if t166 = a0 then ((score_Of.f a0).bind fun t168 => ((score_Of.f a1).bind fun t169 => ((score_Cmp.f t168 t169).bind fun t170 => (some (t170 == 1))))) else (some false)) else (some false)) else (some false)) = some r := by rw [if_pos rfl] at H; exact H
                clear H
                have H := H1
                clear H1
                by_cases c19 : t167 = true
                · subst c19
                  have H1 : (if t163 = a0 then (if t166 = a0 then ((score_Of.f a0).bind fun t168 => ((score_Of.f a1).bind fun t169 => ((score_Cmp.f t168 t169).bind fun t170 => (some (t170 == 1))))) else (some false)) else (some false)) = some r := by rw [if_pos rfl] at H; exact H
                  clear H
                  have H := H1
                  clear H1
                  by_cases c20 : t163 = a0
                  · rw [if_pos c20] at H
                    have c20b0 : (t163 == a0) = true := beq_iff_eq.mpr c20
                    have c20b1 : (t163 != a0) = false := bne_eq_false_iff_eq.mpr c20
                    clear c20
                    by_cases c21 : t166 = a0
                    · rw [if_pos c21] at H
                      have c21b0 : (t166 == a0) = true := beq_iff_eq.mpr c21
                      have c21b1 : (t166 != a0) = false := bne_eq_false_iff_eq.mpr c21
                      clear c21
                      replace H := Option.bind_eq_some_iff.mp H
                      obtain ⟨t168, A220, H⟩ := H
                      replace H : ((score_Of.f a1).bind fun t169 => ((score_Cmp.f t168 t169).bind fun t170 => (some (t170 == 1)))) = some r := H
                      have A22 := Aside0.mk A220
                      clear A220
                      have E_t168 : Aside0 (t168 = t162) := ⟨Option.some.inj (A22.out.symm.trans A11.out)⟩
                      replace H := Option.bind_eq_some_iff.mp H
                      obtain ⟨t169, A230, H⟩ := H
                      replace H : ((score_Cmp.f t168 t169).bind fun t170 => (some (t170 == 1))) = some r := H
                      have A23 := Aside0.mk A230
                      clear A230
                      replace H := Option.bind_eq_some_iff.mp H
                      obtain ⟨t170, A240, H⟩ := H
                      replace H : (some (t170 == 1)) = some r := H
                      have A24 := Aside0.mk A240
                      clear A240
                      obtain rfl := Option.some.inj H
                      go_wp2_with (first | (go_at_call 22; (with_reducible refine (score_Of.calls a0 t168 _ A22.out).mono ?_); rintro e w' ⟨rfl, ⟨nd, rfl⟩⟩) | (go_at_call 22; (with_reducible refine (score_Of.calls a1 t169 _ A23.out).mono ?_); rintro e w' ⟨rfl, ⟨nd, rfl⟩⟩) | (go_at_call 18; (with_reducible refine (score_Cmp.calls t168 t169 t170 _ A24.out).mono ?_); rintro e w' ⟨rfl, ⟨nd, rfl⟩⟩))
                      go_ret
                      exact ⟨by first | rfl | (simp; done) | (simp [*]; done) | (simp [*, E_t168.out]; done), by repeat (first | exact Drawn0.refl _ | apply Drawn0.step)⟩
                    · rw [if_neg c21] at H
                      have c21b0 : (t166 == a0) = false := beq_eq_false_iff_ne.mpr c21
                      have c21b1 : (t166 != a0) = true := bne_iff_ne.mpr c21
                      exact absurd (Option.some.inj H) (by rw [HRT.out]; decide)
                  · rw [if_neg c20] at H
                    have c20b0 : (t163 == a0) = false := beq_eq_false_iff_ne.mpr c20
                    have c20b1 : (t163 != a0) = true := bne_iff_ne.mpr c20
                    exact absurd (Option.some.inj H) (by rw [HRT.out]; decide)
                · replace c19 := Bool.eq_false_iff.mpr c19
                  subst c19
                  have H1 : (some false) = some r := by rw [if_neg (show ¬ (false = true) by decide)] at H; exact H
                  clear H
                  have H := H1
                  clear H1
                  exact absurd (Option.some.inj H) (by rw [HRT.out]; decide)
              · replace c18 := Bool.eq_false_iff.mpr c18
                subst c18
                have H1 : (some false) = some r := by rw [if_neg (show ¬ (false = true) by decide)] at H; exact H
                clear H
                have H := H1
                clear H1
                exact absurd (Option.some.inj H) (by rw [HRT.out]; decide)
            · rw [if_neg c17] at H
              have c17b0 : decide (a1 < a0) = false := decide_eq_false c17
              clear c17
              by_cases c25 : t164 = true
              · subst c25
                have H1 : (if t167 = true then (if t163 = a0 then (if t166 = a0 then ((score_Of.f a0).bind fun t171 => ((score_Of.f a1).bind fun t172 => ((score_Cmp.f t171 t172).bind fun t173 => (some (t173 == x11_14))))) else (some false)) else (some false)) else (some false)) = some r := by rw [if_pos rfl] at H; exact H
                clear H
                have H := H1
                clear H1
                by_cases c26 : t167 = true
                · subst c26
                  have H1 : (if t163 = a0 then (if t166 = a0 then ((score_Of.f a0).bind fun t171 => ((score_Of.f a1).bind fun t172 => ((score_Cmp.f t171 t172).bind fun t173 => (some (t173 == x11_14))))) else (some false)) else (some false)) = some r := by rw [if_pos rfl] at H; exact H
                  clear H
                  have H := H1
                  clear H1
                  by_cases c27 : t163 = a0
                  · rw [if_pos c27] at H
                    have c27b0 : (t163 == a0) = true := beq_iff_eq.mpr c27
                    have c27b1 : (t163 != a0) = false := bne_eq_false_iff_eq.mpr c27
                    clear c27
                    by_cases c28 : t166 = a0
                    · rw [if_pos c28] at H
                      have c28b0 : (t166 == a0) = true := beq_iff_eq.mpr c28
                      have c28b1 : (t166 != a0) = false := bne_eq_false_iff_eq.mpr c28
                      clear c28
                      replace H := Option.bind_eq_some_iff.mp H
                      obtain ⟨t171, A290, H⟩ := H
                      replace H : ((score_Of.f a1).bind fun t172 => ((score_Cmp.f t171 t172).bind fun t173 => (some (t173 == x11_14)))) = some r := H
                      have A29 := Aside0.mk A290
                      clear A290
                      have E_t171 : Aside0 (t171 = t162) := ⟨Option.some.inj (A29.out.symm.trans A11.out)⟩
                      replace H := Option.bind_eq_some_iff.mp H
                      obtain ⟨t172, A300, H⟩ := H
                      replace H : ((score_Cmp.f t171 t172).bind fun t173 => (some (t173 == x11_14))) = some r := H
                      have A30 := Aside0.mk A300
                      clear A300
                      replace H := Option.bind_eq_some_iff.mp H
                      obtain ⟨t173, A310, H⟩ := H
                      replace H : (some (t173 == x11_14)) = some r := H
                      have A31 := Aside0.mk A310
                      clear A310
                      obtain rfl := Option.some.inj H
                      go_wp2_with (first | (go_at_call 22; (with_reducible refine (score_Of.calls a0 t171 _ A29.out).mono ?_); rintro e w' ⟨rfl, ⟨nd, rfl⟩⟩) | (go_at_call 22; (with_reducible refine (score_Of.calls a1 t172 _ A30.out).mono ?_); rintro e w' ⟨rfl, ⟨nd, rfl⟩⟩) | (go_at_call 18; (with_reducible refine (score_Cmp.calls t171 t172 t173 _ A31.out).mono ?_); rintro e w' ⟨rfl, ⟨nd, rfl⟩⟩))
                      go_ret
                      exact ⟨by first | rfl | (simp; done) | (simp [*]; done) | (simp [*, E_t171.out]; done), by repeat (first | exact Drawn0.refl _ | apply Drawn0.step)⟩
                    · rw [if_neg c28] at H
                      have c28b0 : (t166 == a0) = false := beq_eq_false_iff_ne.mpr c28
                      have c28b1 : (t166 != a0) = true := bne_iff_ne.mpr c28
                      exact absurd (Option.some.inj H) (by rw [HRT.out]; decide)
                  · rw [if_neg c27] at H
                    have c27b0 : (t163 == a0) = false := beq_eq_false_iff_ne.mpr c27
                    have c27b1 : (t163 != a0) = true := bne_iff_ne.mpr c27
                    exact absurd (Option.some.inj H) (by rw [HRT.out]; decide)
                · replace c26 := Bool.eq_false_iff.mpr c26
                  subst c26
                  have H1 : (some false) = some r := by rw [if_neg (show ¬ (false = true) by decide)] at H; exact H
                  clear H
                  have H := H1
                  clear H1
                  exact absurd (Option.some.inj H) (by rw [HRT.out]; decide)
              · replace c25 := Bool.eq_false_iff.mpr c25
                subst c25
                have H1 : (some false) = some r := by rw [if_neg (show ¬ (false = true) by decide)] at H; exact H
                clear H
                have H := H1
                clear H1
                exact absurd (Option.some.inj H) (by rw [HRT.out]; decide)

/-- THE ONE PURE STATEMENT of colloquylaw13_ScoreWhole: yours. -/
def colloquylaw13_ScoreWhole.Pure : Prop := ∀ (a0 : Int) (a1 : Int), (Lit.int .i64 a0).wf = true → (Lit.int .i64 a1).wf = true → ∃ k, colloquylaw13_ScoreWhole.f k a0 a1 = some true
theorem colloquylaw13_ScoreWhole.walk (P : colloquylaw13_ScoreWhole.Pure) (a0 : Int) (a1 : Int) (w : World) (w0 : (Lit.int .i64 a0).wf = true) (w1 : (Lit.int .i64 a1).wf = true) :
    Calls Try.prog 11 #[.int .i64 a0, .int .i64 a1] w fun e w' => e = .returned (.bool true) ∧ Below w.heap.size w w' := by
  obtain ⟨k, h⟩ := P a0 a1 w0 w1
  refine (colloquylaw13_ScoreWhole.calls k a0 a1 true w rfl h).mono ?_
  rintro e w' ⟨rfl, hd⟩
  exact ⟨rfl, hd.below⟩

end Go.Proofs.Ytlobedghenflfaa.P
