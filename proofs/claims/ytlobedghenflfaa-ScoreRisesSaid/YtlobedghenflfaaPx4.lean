/- Plain Lean functions and their contracts over the translation, written by a program of this session (myprint.py, over the kit's print); no condition but each contract's own. -/
import Derived.Test.YtlobedghenflfaaPx0
import Derived.Test.YtlobedghenflfaaPx1
namespace Go.Proofs.Ytlobedghenflfaa.P
open Go.RowKit Go.Proofs.YtlobedghenflfaaW.PrintWords Go.Proofs.YtlobedghenflfaaW.PrintLast Go.Proofs.YtlobedghenflfaaW.PrintMore
attribute [local go_sem] max2_int min2_int max_two min_two max_three min_three max_four min_four   -- for this text's walks alone
set_option linter.unusedVariables false
set_option linter.unusedSimpArgs false

/-! ### colloquylaw13_ScoreRises: function 9 -/
def colloquylaw13_ScoreRises.j0 : Nat → Int → Int → Int → Int → Bool → Bool → Option (Bool)
  | 0, _, _, _, _, _, _ => none
  | k + 1, x0, x1, x2, x3, x9, x45 => if x45 = true then (some x9) else ((score_Quotient.f x0 x2).bind fun t142 => ((score_Quotient.f x1 x2).bind fun t143 => ((score_Cmp.f t142 t143).bind fun t144 => (if x0 < 1 then (if t144 ≤ 0 then (if x0 = 0 then (some true) else ((score_Quotient.f (wrap64 (-x0)) (wrap64 (-x2))).bind fun t145 => ((score_Quotient.f x0 x2).bind fun t146 => (some (t145 == t146))))) else (some false)) else ((score_Quotient.f x0 x3).bind fun t147 => ((score_Quotient.f x0 x2).bind fun t148 => ((score_Cmp.f t147 t148).bind fun t149 => (if t144 ≤ 0 then (if t149 ≤ 0 then (if x0 = 0 then (some true) else ((score_Quotient.f (wrap64 (-x0)) (wrap64 (-x2))).bind fun t150 => ((score_Quotient.f x0 x2).bind fun t151 => (some (t150 == t151))))) else (some false)) else (some false)))))))))
def colloquylaw13_ScoreRises.f (k : Nat) (a0 : Int) (a1 : Int) (a2 : Int) (a3 : Int) : Option (Bool) := (colloquylaw13_awake.f).bind fun t141 => (if t141 = true then (if a0 > a1 then (colloquylaw13_ScoreRises.j0 k a0 a1 a2 a3 t141 true) else (if a2 > a3 then (colloquylaw13_ScoreRises.j0 k a0 a1 a2 a3 t141 true) else (if a2 < 1 then (colloquylaw13_ScoreRises.j0 k a0 a1 a2 a3 t141 true) else (if a3 > 9007199254740992 then (colloquylaw13_ScoreRises.j0 k a0 a1 a2 a3 t141 true) else (if a0 < (-9007199254740992) then (colloquylaw13_ScoreRises.j0 k a0 a1 a2 a3 t141 true) else (colloquylaw13_ScoreRises.j0 k a0 a1 a2 a3 t141 (decide (a1 > 9007199254740992)))))))) else (colloquylaw13_ScoreRises.j0 k a0 a1 a2 a3 t141 true))
theorem colloquylaw13_ScoreRises.mono_l : ∀ k, (∀ y0 y1 y2 y3 y4 y5, LeO (colloquylaw13_ScoreRises.j0 k y0 y1 y2 y3 y4 y5) (colloquylaw13_ScoreRises.j0 (k + 1) y0 y1 y2 y3 y4 y5))
  | 0 => fun _ _ _ _ _ _ r h => by simp [colloquylaw13_ScoreRises.j0] at h
  | k + 1 => by
    have ih0 := colloquylaw13_ScoreRises.mono_l k
    · intro y0 y1 y2 y3 y4 y5
      unfold colloquylaw13_ScoreRises.j0
      repeat' first
      | (with_reducible exact ih0 _ _ _ _ _ _)
      | (with_reducible exact LeO.refl _)
      | (with_reducible exact LeO.none _)
      | (with_reducible refine LeO.ite ?_ ?_)
      | (with_reducible refine LeO.bind ?_ (fun _ => ?_))
      | exact ih0 _ _ _ _ _ _
      | exact LeO.none _
      | refine LeO.ite ?_ ?_
      | refine LeO.bind ?_ (fun _ => ?_)
theorem colloquylaw13_ScoreRises.mono : ∀ a0 a1 a2 a3 k, LeO (colloquylaw13_ScoreRises.f k a0 a1 a2 a3) (colloquylaw13_ScoreRises.f (k + 1) a0 a1 a2 a3) := by
  intro a0 a1 a2 a3 k
  have ih0 := colloquylaw13_ScoreRises.mono_l k
  unfold colloquylaw13_ScoreRises.f
  repeat' first
      | (with_reducible exact ih0 _ _ _ _ _ _)
      | (with_reducible exact LeO.refl _)
      | (with_reducible exact LeO.none _)
      | (with_reducible refine LeO.ite ?_ ?_)
      | (with_reducible refine LeO.bind ?_ (fun _ => ?_))
      | exact ih0 _ _ _ _ _ _
      | exact LeO.none _
      | refine LeO.ite ?_ ?_
      | refine LeO.bind ?_ (fun _ => ?_)
set_option maxHeartbeats 8000000 in
set_option maxRecDepth 100000 in
theorem colloquylaw13_ScoreRises.calls (k : Nat) (a0 : Int) (a1 : Int) (a2 : Int) (a3 : Int) (r : Bool) (w : World) (hrt : r = true) (h : colloquylaw13_ScoreRises.f k a0 a1 a2 a3 = some r) :
    Calls Try.prog 9 #[.int .i64 a0, .int .i64 a1, .int .i64 a2, .int .i64 a3] w fun e w' => e = .returned (.bool r) ∧ Drawn0 w w' := by
  have HRT := Aside0.mk hrt
  clear hrt
  have H : ((colloquylaw13_awake.f).bind fun t141 => (if t141 = true then (if a0 > a1 then (colloquylaw13_ScoreRises.j0 k a0 a1 a2 a3 t141 true) else (if a2 > a3 then (colloquylaw13_ScoreRises.j0 k a0 a1 a2 a3 t141 true) else (if a2 < 1 then (colloquylaw13_ScoreRises.j0 k a0 a1 a2 a3 t141 true) else (if a3 > 9007199254740992 then (colloquylaw13_ScoreRises.j0 k a0 a1 a2 a3 t141 true) else (if a0 < (-9007199254740992) then (colloquylaw13_ScoreRises.j0 k a0 a1 a2 a3 t141 true) else (colloquylaw13_ScoreRises.j0 k a0 a1 a2 a3 t141 (decide (a1 > 9007199254740992)))))))) else (colloquylaw13_ScoreRises.j0 k a0 a1 a2 a3 t141 true))) = some r := h
  clear h
  replace H := Option.bind_eq_some_iff.mp H
  obtain ⟨t141, A50, H⟩ := H
  replace H : (if t141 = true then (if a0 > a1 then (colloquylaw13_ScoreRises.j0 k a0 a1 a2 a3 t141 true) else (if a2 > a3 then (colloquylaw13_ScoreRises.j0 k a0 a1 a2 a3 t141 true) else (if a2 < 1 then (colloquylaw13_ScoreRises.j0 k a0 a1 a2 a3 t141 true) else (if a3 > 9007199254740992 then (colloquylaw13_ScoreRises.j0 k a0 a1 a2 a3 t141 true) else (if a0 < (-9007199254740992) then (colloquylaw13_ScoreRises.j0 k a0 a1 a2 a3 t141 true) else (colloquylaw13_ScoreRises.j0 k a0 a1 a2 a3 t141 (decide (a1 > 9007199254740992)))))))) else (colloquylaw13_ScoreRises.j0 k a0 a1 a2 a3 t141 true)) = some r := H
  have A5 := Aside0.mk A50
  clear A50
  have HC6 := Aside0.mk H
  clear H
  go_enter Try.func9, Try.ntmps9
  go_upto_region 3 with (first | ((with_reducible refine gate_callee (f := 12) rfl ?_); refine goesL_ (some 13) rfl rfl Try.func12 (by kernel_rfl) rfl #[] rfl (by (try simp only [List.map_toArray, List.map_cons, List.map_nil]); first | done | rfl | (simp only [List.length_drop, List.length_take]; rfl)) ?_; (with_reducible refine (colloquylaw13_awake.calls  t141 _ A5.out).mono ?_); rintro e w' ⟨rfl, ⟨nd, rfl⟩⟩; refine ⟨_, rfl, ?_⟩))
  (try simp only [Act.put, List.setIfInBounds_toArray, List.set_cons_zero, List.set_cons_succ])
  go_cut [45] (fun v45 wc => ∃ (kq : Nat) (x45_5 : Bool), v45 = .bool x45_5 ∧ Aside0 (colloquylaw13_ScoreRises.j0 kq a0 a1 a2 a3 t141 x45_5 = some r) ∧ Aside0 (kq ≤ k) ∧ Drawn0 w wc)
  case first =>
    have H := HC6.out
    clear HC6
    by_cases c7 : t141 = true
    · subst c7
      have H1 : (if a0 > a1 then (colloquylaw13_ScoreRises.j0 k a0 a1 a2 a3 true true) else (if a2 > a3 then (colloquylaw13_ScoreRises.j0 k a0 a1 a2 a3 true true) else (if a2 < 1 then (colloquylaw13_ScoreRises.j0 k a0 a1 a2 a3 true true) else (if a3 > 9007199254740992 then (colloquylaw13_ScoreRises.j0 k a0 a1 a2 a3 true true) else (if a0 < (-9007199254740992) then (colloquylaw13_ScoreRises.j0 k a0 a1 a2 a3 true true) else (colloquylaw13_ScoreRises.j0 k a0 a1 a2 a3 true (decide (a1 > 9007199254740992)))))))) = some r := by rw [if_pos rfl] at H; exact H
      clear H
      have H := H1
      clear H1
      by_cases c8 : a0 > a1
      · rw [if_pos c8] at H
        have c8b0 : decide (a1 < a0) = true := decide_eq_true c8
        clear c8
        (first | rw [c8b0] | (simp only [i64_w, i32_w]; rw [c8b0]) | skip)
        have H' := Aside0.mk H
        clear H
        go_wp2
        go_meet
        case rel => exact ⟨_, (true), (by first | rfl | (simp; done) | (simp [*]; done)), H', ⟨by first | omega | exact Nat.le_refl _⟩, by repeat (first | exact Drawn0.refl _ | apply Drawn0.step)⟩
      · rw [if_neg c8] at H
        have c8b0 : decide (a1 < a0) = false := decide_eq_false c8
        clear c8
        (first | rw [c8b0] | (simp only [i64_w, i32_w]; rw [c8b0]) | skip)
        by_cases c9 : a2 > a3
        · rw [if_pos c9] at H
          have c9b0 : decide (a3 < a2) = true := decide_eq_true c9
          clear c9
          have H' := Aside0.mk H
          clear H
          go_wp2
          go_meet
          case rel => exact ⟨_, (true), (by first | rfl | (simp; done) | (simp [*]; done)), H', ⟨by first | omega | exact Nat.le_refl _⟩, by repeat (first | exact Drawn0.refl _ | apply Drawn0.step)⟩
        · rw [if_neg c9] at H
          have c9b0 : decide (a3 < a2) = false := decide_eq_false c9
          clear c9
          by_cases c10 : a2 < 1
          · rw [if_pos c10] at H
            have c10b0 : decide (a2 < 1) = true := decide_eq_true c10
            clear c10
            have H' := Aside0.mk H
            clear H
            go_wp2
            go_meet
            case rel => exact ⟨_, (true), (by first | rfl | (simp; done) | (simp [*]; done)), H', ⟨by first | omega | exact Nat.le_refl _⟩, by repeat (first | exact Drawn0.refl _ | apply Drawn0.step)⟩
          · rw [if_neg c10] at H
            have c10b0 : decide (a2 < 1) = false := decide_eq_false c10
            clear c10
            by_cases c11 : a3 > 9007199254740992
            · rw [if_pos c11] at H
              have c11b0 : decide (9007199254740992 < a3) = true := decide_eq_true c11
              clear c11
              have H' := Aside0.mk H
              clear H
              go_wp2
              go_meet
              case rel => exact ⟨_, (true), (by first | rfl | (simp; done) | (simp [*]; done)), H', ⟨by first | omega | exact Nat.le_refl _⟩, by repeat (first | exact Drawn0.refl _ | apply Drawn0.step)⟩
            · rw [if_neg c11] at H
              have c11b0 : decide (9007199254740992 < a3) = false := decide_eq_false c11
              clear c11
              by_cases c12 : a0 < (-9007199254740992)
              · rw [if_pos c12] at H
                have c12b0 : decide (a0 < (-9007199254740992)) = true := decide_eq_true c12
                clear c12
                have H' := Aside0.mk H
                clear H
                go_wp2
                go_meet
                case rel => exact ⟨_, (true), (by first | rfl | (simp; done) | (simp [*]; done)), H', ⟨by first | omega | exact Nat.le_refl _⟩, by repeat (first | exact Drawn0.refl _ | apply Drawn0.step)⟩
              · rw [if_neg c12] at H
                have c12b0 : decide (a0 < (-9007199254740992)) = false := decide_eq_false c12
                clear c12
                have H' := Aside0.mk H
                clear H
                go_wp2
                go_meet
                case rel => exact ⟨_, (decide (a1 > 9007199254740992)), (by first | rfl | (simp; done) | (simp [*]; done)), H', ⟨by first | omega | exact Nat.le_refl _⟩, by repeat (first | exact Drawn0.refl _ | apply Drawn0.step)⟩
    · replace c7 := Bool.eq_false_iff.mpr c7
      subst c7
      have H1 : (colloquylaw13_ScoreRises.j0 k a0 a1 a2 a3 false true) = some r := by rw [if_neg (show ¬ (false = true) by decide)] at H; exact H
      clear H
      have H := H1
      clear H1
      have H' := Aside0.mk H
      clear H
      go_wp2
      go_meet
      case rel => exact ⟨_, (true), (by first | rfl | (simp; done) | (simp [*]; done)), H', ⟨by first | omega | exact Nat.le_refl _⟩, by repeat (first | exact Drawn0.refl _ | apply Drawn0.step)⟩
  case rest =>
    clear HC6
    try clear c1
    try clear p2
    try clear c7
    try clear c8
    try clear c8b0
    try clear c9
    try clear c9b0
    try clear c10
    try clear c10b0
    try clear c11
    try clear c11b0
    try clear c12
    try clear c12b0
    obtain ⟨kq, x45_5, rfl, HA, HJ5, ⟨mc5, rfl⟩⟩ := hcut
    cases kq with
    | zero => exact absurd HA.out (by simp [colloquylaw13_ScoreRises.j0])
    | succ kj5 =>
      have H := HA.out
      clear HA
      simp only [colloquylaw13_ScoreRises.j0] at H
      by_cases c13 : x45_5 = true
      · subst c13
        have H1 : (some t141) = some r := by rw [if_pos rfl] at H; exact H
        clear H
        have H := H1
        clear H1
        obtain rfl := Option.some.inj H
        go_wp2
        go_ret
        exact ⟨by first | rfl | (simp; done) | (simp [*]; done), by repeat (first | exact Drawn0.refl _ | apply Drawn0.step)⟩
      · replace c13 := Bool.eq_false_iff.mpr c13
        subst c13
        have H1 : ((score_Quotient.f a0 a2).bind fun t142 => ((score_Quotient.f a1 a2).bind fun t143 => ((score_Cmp.f t142 t143).bind fun t144 => (if a0 < 1 then (if t144 ≤ 0 then (if a0 = 0 then (some true) else ((score_Quotient.f (wrap64 (-a0)) (wrap64 (-a2))).bind fun t145 => ((score_Quotient.f a0 a2).bind fun t146 => (some (t145 == t146))))) else (some false)) else ((score_Quotient.f a0 a3).bind fun t147 => ((score_Quotient.f a0 a2).bind fun t148 => ((score_Cmp.f t147 t148).bind fun t149 => (if t144 ≤ 0 then (if t149 ≤ 0 then (if a0 = 0 then (some true) else ((score_Quotient.f (wrap64 (-a0)) (wrap64 (-a2))).bind fun t150 => ((score_Quotient.f a0 a2).bind fun t151 => (some (t150 == t151))))) else (some false)) else (some false))))))))) = some r := by rw [if_neg (show ¬ (false = true) by decide)] at H; exact H
        clear H
        have H := H1
        clear H1
        replace H := Option.bind_eq_some_iff.mp H
        obtain ⟨t142, A140, H⟩ := H
        replace H : ((score_Quotient.f a1 a2).bind fun t143 => ((score_Cmp.f t142 t143).bind fun t144 => (if a0 < 1 then (if t144 ≤ 0 then (if a0 = 0 then (some true) else ((score_Quotient.f (wrap64 (-a0)) (wrap64 (-a2))).bind fun t145 => ((score_Quotient.f a0 a2).bind fun t146 => (some (t145 == t146))))) else (some false)) else ((score_Quotient.f a0 a3).bind fun t147 => ((score_Quotient.f a0 a2).bind fun t148 => ((score_Cmp.f t147 t148).bind fun t149 => (if t144 ≤ 0 then (if t149 ≤ 0 then (if a0 = 0 then (some true) else ((score_Quotient.f (wrap64 (-a0)) (wrap64 (-a2))).bind fun t150 => ((score_Quotient.f a0 a2).bind fun t151 => (some (t150 == t151))))) else (some false)) else (some false)))))))) = some r := H
        have A14 := Aside0.mk A140
        clear A140
        replace H := Option.bind_eq_some_iff.mp H
        obtain ⟨t143, A150, H⟩ := H
        replace H : ((score_Cmp.f t142 t143).bind fun t144 => (if a0 < 1 then (if t144 ≤ 0 then (if a0 = 0 then (some true) else ((score_Quotient.f (wrap64 (-a0)) (wrap64 (-a2))).bind fun t145 => ((score_Quotient.f a0 a2).bind fun t146 => (some (t145 == t146))))) else (some false)) else ((score_Quotient.f a0 a3).bind fun t147 => ((score_Quotient.f a0 a2).bind fun t148 => ((score_Cmp.f t147 t148).bind fun t149 => (if t144 ≤ 0 then (if t149 ≤ 0 then (if a0 = 0 then (some true) else ((score_Quotient.f (wrap64 (-a0)) (wrap64 (-a2))).bind fun t150 => ((score_Quotient.f a0 a2).bind fun t151 => (some (t150 == t151))))) else (some false)) else (some false))))))) = some r := H
        have A15 := Aside0.mk A150
        clear A150
        replace H := Option.bind_eq_some_iff.mp H
        obtain ⟨t144, A160, H⟩ := H
        replace H : (if a0 < 1 then (if t144 ≤ 0 then (if a0 = 0 then (some true) else ((score_Quotient.f (wrap64 (-a0)) (wrap64 (-a2))).bind fun t145 => ((score_Quotient.f a0 a2).bind fun t146 => (some (t145 == t146))))) else (some false)) else ((score_Quotient.f a0 a3).bind fun t147 => ((score_Quotient.f a0 a2).bind fun t148 => ((score_Cmp.f t147 t148).bind fun t149 => (if t144 ≤ 0 then (if t149 ≤ 0 then (if a0 = 0 then (some true) else ((score_Quotient.f (wrap64 (-a0)) (wrap64 (-a2))).bind fun t150 => ((score_Quotient.f a0 a2).bind fun t151 => (some (t150 == t151))))) else (some false)) else (some false)))))) = some r := H
        have A16 := Aside0.mk A160
        clear A160
        by_cases c17 : a0 < 1
        · rw [if_pos c17] at H
          have c17b0 : decide (a0 < 1) = true := decide_eq_true c17
          clear c17
          by_cases c18 : t144 ≤ 0
          · rw [if_pos c18] at H
            have c18b0 : decide (t144 ≤ 0) = true := decide_eq_true c18
            clear c18
            by_cases c19 : a0 = 0
            · rw [if_pos c19] at H
              have c19b0 : (a0 == 0) = true := beq_iff_eq.mpr c19
              have c19b1 : (a0 != 0) = false := bne_eq_false_iff_eq.mpr c19
              clear c19
              obtain rfl := Option.some.inj H
              go_wp2_with (first | ((with_reducible refine gate_callee (f := 20) rfl ?_); refine goesL_ (some 49) rfl rfl Try.func20 (by kernel_rfl) rfl #[.int .i64 a0, .int .i64 a2] rfl (by (try simp only [List.map_toArray, List.map_cons, List.map_nil]); first | done | rfl | (simp only [List.length_drop, List.length_take]; rfl)) ?_; (with_reducible refine (score_Quotient.calls a0 a2 t142 _ A14.out).mono ?_); rintro e w' ⟨rfl, ⟨nd, rfl⟩⟩; refine ⟨_, rfl, ?_⟩) | ((with_reducible refine gate_callee (f := 20) rfl ?_); refine goesL_ (some 52) rfl rfl Try.func20 (by kernel_rfl) rfl #[.int .i64 a1, .int .i64 a2] rfl (by (try simp only [List.map_toArray, List.map_cons, List.map_nil]); first | done | rfl | (simp only [List.length_drop, List.length_take]; rfl)) ?_; (with_reducible refine (score_Quotient.calls a1 a2 t143 _ A15.out).mono ?_); rintro e w' ⟨rfl, ⟨nd, rfl⟩⟩; refine ⟨_, rfl, ?_⟩) | ((with_reducible refine gate_callee (f := 18) rfl ?_); refine goesL_ (some 53) rfl rfl Try.func18 (by kernel_rfl) rfl #[.int .u64 t142, .int .u64 t143] rfl (by (try simp only [List.map_toArray, List.map_cons, List.map_nil]); first | done | rfl | (simp only [List.length_drop, List.length_take]; rfl)) ?_; (with_reducible refine (score_Cmp.calls t142 t143 t144 _ A16.out).mono ?_); rintro e w' ⟨rfl, ⟨nd, rfl⟩⟩; refine ⟨_, rfl, ?_⟩))
              go_ret
              exact ⟨by first | rfl | (simp; done) | (simp [*]; done), by repeat (first | exact Drawn0.refl _ | apply Drawn0.step)⟩
            · rw [if_neg c19] at H
              have c19b0 : (a0 == 0) = false := beq_eq_false_iff_ne.mpr c19
              have c19b1 : (a0 != 0) = true := bne_iff_ne.mpr c19
              replace H := Option.bind_eq_some_iff.mp H
              obtain ⟨t145, A200, H⟩ := H
              replace H : ((score_Quotient.f a0 a2).bind fun t146 => (some (t145 == t146))) = some r := H
              have A20 := Aside0.mk A200
              clear A200
              replace H := Option.bind_eq_some_iff.mp H
              obtain ⟨t146, A210, H⟩ := H
              replace H : (some (t145 == t146)) = some r := H
              have A21 := Aside0.mk A210
              clear A210
              have E_t146 : Aside0 (t146 = t142) := ⟨Option.some.inj (A21.out.symm.trans A14.out)⟩
              obtain rfl := Option.some.inj H
              go_wp2_with (first | ((with_reducible refine gate_callee (f := 20) rfl ?_); refine goesL_ (some 49) rfl rfl Try.func20 (by kernel_rfl) rfl #[.int .i64 a0, .int .i64 a2] rfl (by (try simp only [List.map_toArray, List.map_cons, List.map_nil]); first | done | rfl | (simp only [List.length_drop, List.length_take]; rfl)) ?_; (with_reducible refine (score_Quotient.calls a0 a2 t142 _ A14.out).mono ?_); rintro e w' ⟨rfl, ⟨nd, rfl⟩⟩; refine ⟨_, rfl, ?_⟩) | ((with_reducible refine gate_callee (f := 20) rfl ?_); refine goesL_ (some 52) rfl rfl Try.func20 (by kernel_rfl) rfl #[.int .i64 a1, .int .i64 a2] rfl (by (try simp only [List.map_toArray, List.map_cons, List.map_nil]); first | done | rfl | (simp only [List.length_drop, List.length_take]; rfl)) ?_; (with_reducible refine (score_Quotient.calls a1 a2 t143 _ A15.out).mono ?_); rintro e w' ⟨rfl, ⟨nd, rfl⟩⟩; refine ⟨_, rfl, ?_⟩) | ((with_reducible refine gate_callee (f := 18) rfl ?_); refine goesL_ (some 53) rfl rfl Try.func18 (by kernel_rfl) rfl #[.int .u64 t142, .int .u64 t143] rfl (by (try simp only [List.map_toArray, List.map_cons, List.map_nil]); first | done | rfl | (simp only [List.length_drop, List.length_take]; rfl)) ?_; (with_reducible refine (score_Cmp.calls t142 t143 t144 _ A16.out).mono ?_); rintro e w' ⟨rfl, ⟨nd, rfl⟩⟩; refine ⟨_, rfl, ?_⟩) | (go_at_call 20; (with_reducible refine (score_Quotient.calls (wrap64 (-a0)) (wrap64 (-a2)) t145 _ A20.out).mono ?_); rintro e w' ⟨rfl, ⟨nd, rfl⟩⟩) | (go_at_call 20; (with_reducible refine (score_Quotient.calls a0 a2 t146 _ A21.out).mono ?_); rintro e w' ⟨rfl, ⟨nd, rfl⟩⟩))
              go_ret
              exact ⟨by first | rfl | (simp; done) | (simp [*]; done) | (simp [*, E_t146.out]; done), by repeat (first | exact Drawn0.refl _ | apply Drawn0.step)⟩
          · rw [if_neg c18] at H
            have c18b0 : decide (t144 ≤ 0) = false := decide_eq_false c18
            clear c18
            exact absurd (Option.some.inj H) (by rw [HRT.out]; decide)
        · rw [if_neg c17] at H
          have c17b0 : decide (a0 < 1) = false := decide_eq_false c17
          clear c17
          replace H := Option.bind_eq_some_iff.mp H
          obtain ⟨t147, A220, H⟩ := H
          replace H : ((score_Quotient.f a0 a2).bind fun t148 => ((score_Cmp.f t147 t148).bind fun t149 => (if t144 ≤ 0 then (if t149 ≤ 0 then (if a0 = 0 then (some true) else ((score_Quotient.f (wrap64 (-a0)) (wrap64 (-a2))).bind fun t150 => ((score_Quotient.f a0 a2).bind fun t151 => (some (t150 == t151))))) else (some false)) else (some false)))) = some r := H
          have A22 := Aside0.mk A220
          clear A220
          replace H := Option.bind_eq_some_iff.mp H
          obtain ⟨t148, A230, H⟩ := H
          replace H : ((score_Cmp.f t147 t148).bind fun t149 => (if t144 ≤ 0 then (if t149 ≤ 0 then (if a0 = 0 then (some true) else ((score_Quotient.f (wrap64 (-a0)) (wrap64 (-a2))).bind fun t150 => ((score_Quotient.f a0 a2).bind fun t151 => (some (t150 == t151))))) else (some false)) else (some false))) = some r := H
          have A23 := Aside0.mk A230
          clear A230
          have E_t148 : Aside0 (t148 = t142) := ⟨Option.some.inj (A23.out.symm.trans A14.out)⟩
          replace H := Option.bind_eq_some_iff.mp H
          obtain ⟨t149, A240, H⟩ := H
          replace H : (if t144 ≤ 0 then (if t149 ≤ 0 then (if a0 = 0 then (some true) else ((score_Quotient.f (wrap64 (-a0)) (wrap64 (-a2))).bind fun t150 => ((score_Quotient.f a0 a2).bind fun t151 => (some (t150 == t151))))) else (some false)) else (some false)) = some r := H
          have A24 := Aside0.mk A240
          clear A240
          by_cases c25 : t144 ≤ 0
          · rw [if_pos c25] at H
            have c25b0 : decide (t144 ≤ 0) = true := decide_eq_true c25
            clear c25
            by_cases c26 : t149 ≤ 0
            · rw [if_pos c26] at H
              have c26b0 : decide (t149 ≤ 0) = true := decide_eq_true c26
              clear c26
              by_cases c27 : a0 = 0
              · rw [if_pos c27] at H
                have c27b0 : (a0 == 0) = true := beq_iff_eq.mpr c27
                have c27b1 : (a0 != 0) = false := bne_eq_false_iff_eq.mpr c27
                clear c27
                obtain rfl := Option.some.inj H
                go_wp2_with (first | ((with_reducible refine gate_callee (f := 20) rfl ?_); refine goesL_ (some 49) rfl rfl Try.func20 (by kernel_rfl) rfl #[.int .i64 a0, .int .i64 a2] rfl (by (try simp only [List.map_toArray, List.map_cons, List.map_nil]); first | done | rfl | (simp only [List.length_drop, List.length_take]; rfl)) ?_; (with_reducible refine (score_Quotient.calls a0 a2 t142 _ A14.out).mono ?_); rintro e w' ⟨rfl, ⟨nd, rfl⟩⟩; refine ⟨_, rfl, ?_⟩) | ((with_reducible refine gate_callee (f := 20) rfl ?_); refine goesL_ (some 52) rfl rfl Try.func20 (by kernel_rfl) rfl #[.int .i64 a1, .int .i64 a2] rfl (by (try simp only [List.map_toArray, List.map_cons, List.map_nil]); first | done | rfl | (simp only [List.length_drop, List.length_take]; rfl)) ?_; (with_reducible refine (score_Quotient.calls a1 a2 t143 _ A15.out).mono ?_); rintro e w' ⟨rfl, ⟨nd, rfl⟩⟩; refine ⟨_, rfl, ?_⟩) | ((with_reducible refine gate_callee (f := 18) rfl ?_); refine goesL_ (some 53) rfl rfl Try.func18 (by kernel_rfl) rfl #[.int .u64 t142, .int .u64 t143] rfl (by (try simp only [List.map_toArray, List.map_cons, List.map_nil]); first | done | rfl | (simp only [List.length_drop, List.length_take]; rfl)) ?_; (with_reducible refine (score_Cmp.calls t142 t143 t144 _ A16.out).mono ?_); rintro e w' ⟨rfl, ⟨nd, rfl⟩⟩; refine ⟨_, rfl, ?_⟩) | (go_at_call 20; (with_reducible refine (score_Quotient.calls a0 a3 t147 _ A22.out).mono ?_); rintro e w' ⟨rfl, ⟨nd, rfl⟩⟩) | (go_at_call 20; (with_reducible refine (score_Quotient.calls a0 a2 t148 _ A23.out).mono ?_); rintro e w' ⟨rfl, ⟨nd, rfl⟩⟩) | (go_at_call 18; (with_reducible refine (score_Cmp.calls t147 t148 t149 _ A24.out).mono ?_); rintro e w' ⟨rfl, ⟨nd, rfl⟩⟩))
                go_ret
                exact ⟨by first | rfl | (simp; done) | (simp [*]; done) | (simp [*, E_t148.out]; done), by repeat (first | exact Drawn0.refl _ | apply Drawn0.step)⟩
              · rw [if_neg c27] at H
                have c27b0 : (a0 == 0) = false := beq_eq_false_iff_ne.mpr c27
                have c27b1 : (a0 != 0) = true := bne_iff_ne.mpr c27
                replace H := Option.bind_eq_some_iff.mp H
                obtain ⟨t150, A280, H⟩ := H
                replace H : ((score_Quotient.f a0 a2).bind fun t151 => (some (t150 == t151))) = some r := H
                have A28 := Aside0.mk A280
                clear A280
                replace H := Option.bind_eq_some_iff.mp H
                obtain ⟨t151, A290, H⟩ := H
                replace H : (some (t150 == t151)) = some r := H
                have A29 := Aside0.mk A290
                clear A290
                have E_t151 : Aside0 (t151 = t148) := ⟨Option.some.inj (A29.out.symm.trans A23.out)⟩
                obtain rfl := Option.some.inj H
                go_wp2_with (first | ((with_reducible refine gate_callee (f := 20) rfl ?_); refine goesL_ (some 49) rfl rfl Try.func20 (by kernel_rfl) rfl #[.int .i64 a0, .int .i64 a2] rfl (by (try simp only [List.map_toArray, List.map_cons, List.map_nil]); first | done | rfl | (simp only [List.length_drop, List.length_take]; rfl)) ?_; (with_reducible refine (score_Quotient.calls a0 a2 t142 _ A14.out).mono ?_); rintro e w' ⟨rfl, ⟨nd, rfl⟩⟩; refine ⟨_, rfl, ?_⟩) | ((with_reducible refine gate_callee (f := 20) rfl ?_); refine goesL_ (some 52) rfl rfl Try.func20 (by kernel_rfl) rfl #[.int .i64 a1, .int .i64 a2] rfl (by (try simp only [List.map_toArray, List.map_cons, List.map_nil]); first | done | rfl | (simp only [List.length_drop, List.length_take]; rfl)) ?_; (with_reducible refine (score_Quotient.calls a1 a2 t143 _ A15.out).mono ?_); rintro e w' ⟨rfl, ⟨nd, rfl⟩⟩; refine ⟨_, rfl, ?_⟩) | ((with_reducible refine gate_callee (f := 18) rfl ?_); refine goesL_ (some 53) rfl rfl Try.func18 (by kernel_rfl) rfl #[.int .u64 t142, .int .u64 t143] rfl (by (try simp only [List.map_toArray, List.map_cons, List.map_nil]); first | done | rfl | (simp only [List.length_drop, List.length_take]; rfl)) ?_; (with_reducible refine (score_Cmp.calls t142 t143 t144 _ A16.out).mono ?_); rintro e w' ⟨rfl, ⟨nd, rfl⟩⟩; refine ⟨_, rfl, ?_⟩) | (go_at_call 20; (with_reducible refine (score_Quotient.calls a0 a3 t147 _ A22.out).mono ?_); rintro e w' ⟨rfl, ⟨nd, rfl⟩⟩) | (go_at_call 20; (with_reducible refine (score_Quotient.calls a0 a2 t148 _ A23.out).mono ?_); rintro e w' ⟨rfl, ⟨nd, rfl⟩⟩) | (go_at_call 18; (with_reducible refine (score_Cmp.calls t147 t148 t149 _ A24.out).mono ?_); rintro e w' ⟨rfl, ⟨nd, rfl⟩⟩) | (go_at_call 20; (with_reducible refine (score_Quotient.calls (wrap64 (-a0)) (wrap64 (-a2)) t150 _ A28.out).mono ?_); rintro e w' ⟨rfl, ⟨nd, rfl⟩⟩) | (go_at_call 20; (with_reducible refine (score_Quotient.calls a0 a2 t151 _ A29.out).mono ?_); rintro e w' ⟨rfl, ⟨nd, rfl⟩⟩))
                go_ret
                exact ⟨by first | rfl | (simp; done) | (simp [*]; done) | (simp [*, E_t148.out, E_t151.out]; done), by repeat (first | exact Drawn0.refl _ | apply Drawn0.step)⟩
            · rw [if_neg c26] at H
              have c26b0 : decide (t149 ≤ 0) = false := decide_eq_false c26
              clear c26
              exact absurd (Option.some.inj H) (by rw [HRT.out]; decide)
          · rw [if_neg c25] at H
            have c25b0 : decide (t144 ≤ 0) = false := decide_eq_false c25
            clear c25
            exact absurd (Option.some.inj H) (by rw [HRT.out]; decide)

/-- THE ONE PURE STATEMENT of colloquylaw13_ScoreRises: yours. -/
def colloquylaw13_ScoreRises.Pure : Prop := ∀ (a0 : Int) (a1 : Int) (a2 : Int) (a3 : Int), (Lit.int .i64 a0).wf = true → (Lit.int .i64 a1).wf = true → (Lit.int .i64 a2).wf = true → (Lit.int .i64 a3).wf = true → ∃ k, colloquylaw13_ScoreRises.f k a0 a1 a2 a3 = some true
theorem colloquylaw13_ScoreRises.walk (P : colloquylaw13_ScoreRises.Pure) (a0 : Int) (a1 : Int) (a2 : Int) (a3 : Int) (w : World) (w0 : (Lit.int .i64 a0).wf = true) (w1 : (Lit.int .i64 a1).wf = true) (w2 : (Lit.int .i64 a2).wf = true) (w3 : (Lit.int .i64 a3).wf = true) :
    Calls Try.prog 9 #[.int .i64 a0, .int .i64 a1, .int .i64 a2, .int .i64 a3] w fun e w' => e = .returned (.bool true) ∧ Below w.heap.size w w' := by
  obtain ⟨k, h⟩ := P a0 a1 a2 a3 w0 w1 w2 w3
  refine (colloquylaw13_ScoreRises.calls k a0 a1 a2 a3 true w rfl h).mono ?_
  rintro e w' ⟨rfl, hd⟩
  exact ⟨rfl, hd.below⟩

/-! ### colloquylaw13_ScoreEdges: function 10 -/
def colloquylaw13_ScoreEdges.j0 : Nat → Int → Int → Int → Int → Bool → Option (Bool)
  | 0, _, _, _, _, _ => none
  | k + 1, x0, x2, x8, x9, x27 => if x27 = true then (some false) else (if x0 = 0 then ((score_Cmp.f x8 x9).bind fun t157 => (if t157 ≥ 0 then (some (x8 == 9221120237041090560)) else (some false))) else (if x2 = 0 then (some true) else (if x0 > 0 then ((score_Cmp.f x8 x9).bind fun t158 => (if t158 > 0 then (some true) else (if x0 < 0 then ((score_Cmp.f x8 x9).bind fun t159 => (some (decide (t159 < 0)))) else (some false)))) else (if x0 < 0 then ((score_Cmp.f x8 x9).bind fun t160 => (some (decide (t160 < 0)))) else (some false)))))
def colloquylaw13_ScoreEdges.f (k : Nat) (a0 : Int) (a1 : Int) (a2 : Int) : Option (Bool) := (colloquylaw13_awake.f).bind fun t152 => ((score_Quotient.f a0 0).bind fun t153 => ((score_Quotient.f a1 a2).bind fun t154 => ((score_Floor.f t153).bind fun bt155 => (if t152 = true then (colloquylaw13_ScoreEdges.j0 k a0 a2 t153 t154 bt155.2) else (colloquylaw13_ScoreEdges.j0 k a0 a2 t153 t154 true)))))
theorem colloquylaw13_ScoreEdges.mono_l : ∀ k, (∀ y0 y1 y2 y3 y4, LeO (colloquylaw13_ScoreEdges.j0 k y0 y1 y2 y3 y4) (colloquylaw13_ScoreEdges.j0 (k + 1) y0 y1 y2 y3 y4))
  | 0 => fun _ _ _ _ _ r h => by simp [colloquylaw13_ScoreEdges.j0] at h
  | k + 1 => by
    have ih0 := colloquylaw13_ScoreEdges.mono_l k
    · intro y0 y1 y2 y3 y4
      unfold colloquylaw13_ScoreEdges.j0
      repeat' first
      | (with_reducible exact ih0 _ _ _ _ _)
      | (with_reducible exact LeO.refl _)
      | (with_reducible exact LeO.none _)
      | (with_reducible refine LeO.ite ?_ ?_)
      | (with_reducible refine LeO.bind ?_ (fun _ => ?_))
      | exact ih0 _ _ _ _ _
      | exact LeO.none _
      | refine LeO.ite ?_ ?_
      | refine LeO.bind ?_ (fun _ => ?_)
theorem colloquylaw13_ScoreEdges.mono : ∀ a0 a1 a2 k, LeO (colloquylaw13_ScoreEdges.f k a0 a1 a2) (colloquylaw13_ScoreEdges.f (k + 1) a0 a1 a2) := by
  intro a0 a1 a2 k
  have ih0 := colloquylaw13_ScoreEdges.mono_l k
  unfold colloquylaw13_ScoreEdges.f
  repeat' first
      | (with_reducible exact ih0 _ _ _ _ _)
      | (with_reducible exact LeO.refl _)
      | (with_reducible exact LeO.none _)
      | (with_reducible refine LeO.ite ?_ ?_)
      | (with_reducible refine LeO.bind ?_ (fun _ => ?_))
      | exact ih0 _ _ _ _ _
      | exact LeO.none _
      | refine LeO.ite ?_ ?_
      | refine LeO.bind ?_ (fun _ => ?_)
set_option maxHeartbeats 8000000 in
set_option maxRecDepth 100000 in
theorem colloquylaw13_ScoreEdges.calls (k : Nat) (a0 : Int) (a1 : Int) (a2 : Int) (r : Bool) (w : World) (hrt : r = true) (h : colloquylaw13_ScoreEdges.f k a0 a1 a2 = some r) :
    Calls Try.prog 10 #[.int .i64 a0, .int .i64 a1, .int .i64 a2] w fun e w' => e = .returned (.bool r) ∧ Drawn0 w w' := by
  have HRT := Aside0.mk hrt
  clear hrt
  have H : ((colloquylaw13_awake.f).bind fun t152 => ((score_Quotient.f a0 0).bind fun t153 => ((score_Quotient.f a1 a2).bind fun t154 => ((score_Floor.f t153).bind fun bt155 => (if t152 = true then (colloquylaw13_ScoreEdges.j0 k a0 a2 t153 t154 bt155.2) else (colloquylaw13_ScoreEdges.j0 k a0 a2 t153 t154 true)))))) = some r := h
  clear h
  replace H := Option.bind_eq_some_iff.mp H
  obtain ⟨t152, A40, H⟩ := H
  replace H : ((score_Quotient.f a0 0).bind fun t153 => ((score_Quotient.f a1 a2).bind fun t154 => ((score_Floor.f t153).bind fun bt155 => (if t152 = true then (colloquylaw13_ScoreEdges.j0 k a0 a2 t153 t154 bt155.2) else (colloquylaw13_ScoreEdges.j0 k a0 a2 t153 t154 true))))) = some r := H
  have A4 := Aside0.mk A40
  clear A40
  replace H := Option.bind_eq_some_iff.mp H
  obtain ⟨t153, A50, H⟩ := H
  replace H : ((score_Quotient.f a1 a2).bind fun t154 => ((score_Floor.f t153).bind fun bt155 => (if t152 = true then (colloquylaw13_ScoreEdges.j0 k a0 a2 t153 t154 bt155.2) else (colloquylaw13_ScoreEdges.j0 k a0 a2 t153 t154 true)))) = some r := H
  have A5 := Aside0.mk A50
  clear A50
  replace H := Option.bind_eq_some_iff.mp H
  obtain ⟨t154, A60, H⟩ := H
  replace H : ((score_Floor.f t153).bind fun bt155 => (if t152 = true then (colloquylaw13_ScoreEdges.j0 k a0 a2 t153 t154 bt155.2) else (colloquylaw13_ScoreEdges.j0 k a0 a2 t153 t154 true))) = some r := H
  have A6 := Aside0.mk A60
  clear A60
  replace H := Option.bind_eq_some_iff.mp H
  obtain ⟨⟨t155, t156⟩, A70, H⟩ := H
  replace H : (if t152 = true then (colloquylaw13_ScoreEdges.j0 k a0 a2 t153 t154 t156) else (colloquylaw13_ScoreEdges.j0 k a0 a2 t153 t154 true)) = some r := H
  have A7 := Aside0.mk A70
  clear A70
  have HC8 := Aside0.mk H
  clear H
  go_enter Try.func10, Try.ntmps10
  go_upto_region 5 with (first | ((with_reducible refine gate_callee (f := 12) rfl ?_); refine goesL_ (some 12) rfl rfl Try.func12 (by kernel_rfl) rfl #[] rfl (by (try simp only [List.map_toArray, List.map_cons, List.map_nil]); first | done | rfl | (simp only [List.length_drop, List.length_take]; rfl)) ?_; (with_reducible refine (colloquylaw13_awake.calls  t152 _ A4.out).mono ?_); rintro e w' ⟨rfl, ⟨nd, rfl⟩⟩; refine ⟨_, rfl, ?_⟩) | ((with_reducible refine gate_callee (f := 20) rfl ?_); refine goesL_ (some 14) rfl rfl Try.func20 (by kernel_rfl) rfl #[.int .i64 a0, .int .i64 0] rfl (by (try simp only [List.map_toArray, List.map_cons, List.map_nil]); first | done | rfl | (simp only [List.length_drop, List.length_take]; rfl)) ?_; (with_reducible refine (score_Quotient.calls a0 0 t153 _ A5.out).mono ?_); rintro e w' ⟨rfl, ⟨nd, rfl⟩⟩; refine ⟨_, rfl, ?_⟩) | ((with_reducible refine gate_callee (f := 20) rfl ?_); refine goesL_ (some 17) rfl rfl Try.func20 (by kernel_rfl) rfl #[.int .i64 a1, .int .i64 a2] rfl (by (try simp only [List.map_toArray, List.map_cons, List.map_nil]); first | done | rfl | (simp only [List.length_drop, List.length_take]; rfl)) ?_; (with_reducible refine (score_Quotient.calls a1 a2 t154 _ A6.out).mono ?_); rintro e w' ⟨rfl, ⟨nd, rfl⟩⟩; refine ⟨_, rfl, ?_⟩) | ((with_reducible refine gate_callee (f := 13) rfl ?_); refine goesL_ (some 20) rfl rfl Try.func13 (by kernel_rfl) rfl #[.int .u64 t153] rfl (by (try simp only [List.map_toArray, List.map_cons, List.map_nil]); first | done | rfl | (simp only [List.length_drop, List.length_take]; rfl)) ?_; (with_reducible refine (score_Floor.calls t153 t155 t156 _ A7.out).mono ?_); rintro e w' ⟨rfl, ⟨nd, rfl⟩⟩; refine ⟨_, rfl, ?_⟩))
  (try simp only [Act.put, List.setIfInBounds_toArray, List.set_cons_zero, List.set_cons_succ])
  go_cut [27] (fun v27 wc => ∃ (kq : Nat) (x27_7 : Bool), v27 = .bool x27_7 ∧ Aside0 (colloquylaw13_ScoreEdges.j0 kq a0 a2 t153 t154 x27_7 = some r) ∧ Aside0 (kq ≤ k) ∧ Drawn0 w wc)
  case first =>
    have H := HC8.out
    clear HC8
    by_cases c9 : t152 = true
    · subst c9
      have H1 : (colloquylaw13_ScoreEdges.j0 k a0 a2 t153 t154 t156) = some r := by rw [if_pos rfl] at H; exact H
      clear H
      have H := H1
      clear H1
      have H' := Aside0.mk H
      clear H
      go_wp2
      go_meet
      case rel => exact ⟨_, (t156), (by first | rfl | (simp; done) | (simp [*]; done)), H', ⟨by first | omega | exact Nat.le_refl _⟩, by repeat (first | exact Drawn0.refl _ | apply Drawn0.step)⟩
    · replace c9 := Bool.eq_false_iff.mpr c9
      subst c9
      have H1 : (colloquylaw13_ScoreEdges.j0 k a0 a2 t153 t154 true) = some r := by rw [if_neg (show ¬ (false = true) by decide)] at H; exact H
      clear H
      have H := H1
      clear H1
      have H' := Aside0.mk H
      clear H
      go_wp2
      go_meet
      case rel => exact ⟨_, (true), (by first | rfl | (simp; done) | (simp [*]; done)), H', ⟨by first | omega | exact Nat.le_refl _⟩, by repeat (first | exact Drawn0.refl _ | apply Drawn0.step)⟩
  case rest =>
    clear HC8
    try clear c1
    try clear c2
    try clear p2
    try clear c9
    obtain ⟨kq, x27_7, rfl, HA, HJ7, ⟨mc7, rfl⟩⟩ := hcut
    cases kq with
    | zero => exact absurd HA.out (by simp [colloquylaw13_ScoreEdges.j0])
    | succ kj7 =>
      have H := HA.out
      clear HA
      simp only [colloquylaw13_ScoreEdges.j0] at H
      by_cases c10 : x27_7 = true
      · subst c10
        have H1 : (some false) = some r := by rw [if_pos rfl] at H; exact H
        clear H
        have H := H1
        clear H1
        exact absurd (Option.some.inj H) (by rw [HRT.out]; decide)
      · replace c10 := Bool.eq_false_iff.mpr c10
        subst c10
        have H1 : (if a0 = 0 then ((score_Cmp.f t153 t154).bind fun t157 => (if t157 ≥ 0 then (some (t153 == 9221120237041090560)) else (some false))) else (if a2 = 0 then (some true) else (if a0 > 0 then ((score_Cmp.f t153 t154).bind fun t158 => (if t158 > 0 then (some true) else (if a0 < 0 then ((score_Cmp.f t153 t154).bind fun t159 => (some (decide (t159 < 0)))) else (some false)))) else (if a0 < 0 then ((score_Cmp.f t153 t154).bind fun t160 => (some (decide (t160 < 0)))) else (some false))))) = some r := by rw [if_neg (show ¬ (false = true) by decide)] at H; exact H
        clear H
        have H := H1
        clear H1
        by_cases c11 : a0 = 0
        · rw [if_pos c11] at H
          have c11b0 : (a0 == 0) = true := beq_iff_eq.mpr c11
          have c11b1 : (a0 != 0) = false := bne_eq_false_iff_eq.mpr c11
          clear c11
          replace H := Option.bind_eq_some_iff.mp H
          obtain ⟨t157, A120, H⟩ := H
          replace H : (if t157 ≥ 0 then (some (t153 == 9221120237041090560)) else (some false)) = some r := H
          have A12 := Aside0.mk A120
          clear A120
          by_cases c13 : t157 ≥ 0
          · rw [if_pos c13] at H
            have c13b0 : decide (0 ≤ t157) = true := decide_eq_true c13
            clear c13
            obtain rfl := Option.some.inj H
            go_wp2_with (first | ((with_reducible refine gate_callee (f := 18) rfl ?_); refine goesL_ (some 32) rfl rfl Try.func18 (by kernel_rfl) rfl #[.int .u64 t153, .int .u64 t154] rfl (by (try simp only [List.map_toArray, List.map_cons, List.map_nil]); first | done | rfl | (simp only [List.length_drop, List.length_take]; rfl)) ?_; (with_reducible refine (score_Cmp.calls t153 t154 t157 _ A12.out).mono ?_); rintro e w' ⟨rfl, ⟨nd, rfl⟩⟩; refine ⟨_, rfl, ?_⟩))
            go_ret
            exact ⟨by first | rfl | (simp; done) | (simp [*]; done), by repeat (first | exact Drawn0.refl _ | apply Drawn0.step)⟩
          · rw [if_neg c13] at H
            have c13b0 : decide (0 ≤ t157) = false := decide_eq_false c13
            clear c13
            exact absurd (Option.some.inj H) (by rw [HRT.out]; decide)
        · rw [if_neg c11] at H
          have c11b0 : (a0 == 0) = false := beq_eq_false_iff_ne.mpr c11
          have c11b1 : (a0 != 0) = true := bne_iff_ne.mpr c11
          by_cases c14 : a2 = 0
          · rw [if_pos c14] at H
            have c14b0 : (a2 == 0) = true := beq_iff_eq.mpr c14
            have c14b1 : (a2 != 0) = false := bne_eq_false_iff_eq.mpr c14
            clear c14
            obtain rfl := Option.some.inj H
            go_wp2
            go_ret
            exact ⟨by first | rfl | (simp; done) | (simp [*]; done), by repeat (first | exact Drawn0.refl _ | apply Drawn0.step)⟩
          · rw [if_neg c14] at H
            have c14b0 : (a2 == 0) = false := beq_eq_false_iff_ne.mpr c14
            have c14b1 : (a2 != 0) = true := bne_iff_ne.mpr c14
            by_cases c15 : a0 > 0
            · rw [if_pos c15] at H
              have c15b0 : decide (0 < a0) = true := decide_eq_true c15
              clear c15
              replace H := Option.bind_eq_some_iff.mp H
              obtain ⟨t158, A160, H⟩ := H
              replace H : (if t158 > 0 then (some true) else (if a0 < 0 then ((score_Cmp.f t153 t154).bind fun t159 => (some (decide (t159 < 0)))) else (some false))) = some r := H
              have A16 := Aside0.mk A160
              clear A160
              by_cases c17 : t158 > 0
              · rw [if_pos c17] at H
                have c17b0 : decide (0 < t158) = true := decide_eq_true c17
                clear c17
                obtain rfl := Option.some.inj H
                go_wp2_with (first | (go_at_call 18; (with_reducible refine (score_Cmp.calls t153 t154 t158 _ A16.out).mono ?_); rintro e w' ⟨rfl, ⟨nd, rfl⟩⟩))
                go_ret
                exact ⟨by first | rfl | (simp; done) | (simp [*]; done), by repeat (first | exact Drawn0.refl _ | apply Drawn0.step)⟩
              · rw [if_neg c17] at H
                have c17b0 : decide (0 < t158) = false := decide_eq_false c17
                clear c17
                by_cases c18 : a0 < 0
                · rw [if_pos c18] at H
                  have c18b0 : decide (a0 < 0) = true := decide_eq_true c18
                  clear c18
                  replace H := Option.bind_eq_some_iff.mp H
                  obtain ⟨t159, A190, H⟩ := H
                  replace H : (some (decide (t159 < 0))) = some r := H
                  have A19 := Aside0.mk A190
                  clear A190
                  have E_t159 : Aside0 (t159 = t158) := ⟨Option.some.inj (A19.out.symm.trans A16.out)⟩
                  obtain rfl := Option.some.inj H
                  go_wp2_with (first | (go_at_call 18; (with_reducible refine (score_Cmp.calls t153 t154 t158 _ A16.out).mono ?_); rintro e w' ⟨rfl, ⟨nd, rfl⟩⟩) | (go_at_call 18; (with_reducible refine (score_Cmp.calls t153 t154 t159 _ A19.out).mono ?_); rintro e w' ⟨rfl, ⟨nd, rfl⟩⟩))
                  go_ret
                  exact ⟨by first | rfl | (simp; done) | (simp [*]; done) | (simp [*, E_t159.out]; done), by repeat (first | exact Drawn0.refl _ | apply Drawn0.step)⟩
                · rw [if_neg c18] at H
                  have c18b0 : decide (a0 < 0) = false := decide_eq_false c18
                  clear c18
                  exact absurd (Option.some.inj H) (by rw [HRT.out]; decide)
            · rw [if_neg c15] at H
              have c15b0 : decide (0 < a0) = false := decide_eq_false c15
              clear c15
              by_cases c20 : a0 < 0
              · rw [if_pos c20] at H
                have c20b0 : decide (a0 < 0) = true := decide_eq_true c20
                clear c20
                replace H := Option.bind_eq_some_iff.mp H
                obtain ⟨t160, A210, H⟩ := H
                replace H : (some (decide (t160 < 0))) = some r := H
                have A21 := Aside0.mk A210
                clear A210
                obtain rfl := Option.some.inj H
                go_wp2_with (first | (go_at_call 18; (with_reducible refine (score_Cmp.calls t153 t154 t160 _ A21.out).mono ?_); rintro e w' ⟨rfl, ⟨nd, rfl⟩⟩))
                go_ret
                exact ⟨by first | rfl | (simp; done) | (simp [*]; done), by repeat (first | exact Drawn0.refl _ | apply Drawn0.step)⟩
              · rw [if_neg c20] at H
                have c20b0 : decide (a0 < 0) = false := decide_eq_false c20
                clear c20
                exact absurd (Option.some.inj H) (by rw [HRT.out]; decide)

/-- THE ONE PURE STATEMENT of colloquylaw13_ScoreEdges: yours. -/
def colloquylaw13_ScoreEdges.Pure : Prop := ∀ (a0 : Int) (a1 : Int) (a2 : Int), (Lit.int .i64 a0).wf = true → (Lit.int .i64 a1).wf = true → (Lit.int .i64 a2).wf = true → ∃ k, colloquylaw13_ScoreEdges.f k a0 a1 a2 = some true
theorem colloquylaw13_ScoreEdges.walk (P : colloquylaw13_ScoreEdges.Pure) (a0 : Int) (a1 : Int) (a2 : Int) (w : World) (w0 : (Lit.int .i64 a0).wf = true) (w1 : (Lit.int .i64 a1).wf = true) (w2 : (Lit.int .i64 a2).wf = true) :
    Calls Try.prog 10 #[.int .i64 a0, .int .i64 a1, .int .i64 a2] w fun e w' => e = .returned (.bool true) ∧ Below w.heap.size w w' := by
  obtain ⟨k, h⟩ := P a0 a1 a2 w0 w1 w2
  refine (colloquylaw13_ScoreEdges.calls k a0 a1 a2 true w rfl h).mono ?_
  rintro e w' ⟨rfl, hd⟩
  exact ⟨rfl, hd.below⟩

end Go.Proofs.Ytlobedghenflfaa.P
