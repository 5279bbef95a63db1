/- Plain Lean functions and their contracts over the translation, written by a program of this session (myprint.py, over the kit's print); no condition but each contract's own. -/
import Derived.Test.YtlobedghenflfaaPx0
import Derived.Test.YtlobedghenflfaaPx1
import Derived.Test.YtlobedghenflfaaPx2
import Derived.Test.YtlobedghenflfaaPx4
namespace Go.Proofs.Ytlobedghenflfaa.P
open Go.RowKit Go.Proofs.YtlobedghenflfaaW.PrintWords Go.Proofs.YtlobedghenflfaaW.PrintLast Go.Proofs.YtlobedghenflfaaW.PrintMore
attribute [local go_sem] max2_int min2_int max_two min_two max_three min_three max_four min_four   -- for this text's walks alone
set_option linter.unusedVariables false
set_option linter.unusedSimpArgs false

/-! ### colloquyref13_Quotient: function 21 -/
mutual
def colloquyref13_Quotient.j0 : Nat → Int → Int → Bool → Option (Int)
 | 0, _, _, _ => none
 | k + 1, x5, x6, x17 => if x17 = true then (some 9221120237041090560) else (if ((decide (x5 < 0)) != (decide (x6 < 0))) = true then (colloquyref13_Quotient.j1 k x5 x6 9223372036854775808) else (colloquyref13_Quotient.j1 k x5 x6 0))
def colloquyref13_Quotient.j1 : Nat → Int → Int → Int → Option (Int)
 | 0, _, _, _ => none
 | k + 1, x5, x6, x7 => if x5 < 0 then (colloquyref13_Quotient.j2 k (wrap64 (-x5)) x6 x7) else (colloquyref13_Quotient.j2 k x5 x6 x7)
def colloquyref13_Quotient.j2 : Nat → Int → Int → Int → Option (Int)
 | 0, _, _, _ => none
 | k + 1, x5, x6, x7 => if x6 < 0 then (colloquyref13_Quotient.j3 k x5 (wrap64 (-x6)) x7) else (colloquyref13_Quotient.j3 k x5 x6 x7)
def colloquyref13_Quotient.j3 : Nat → Int → Int → Int → Option (Int)
 | 0, _, _, _ => none
 | k + 1, x5, x6, x7 => if x6 = 0 then (some (IntKind.u64.wrap (x7 + 9218868437227405312))) else (if x5 = 0 then (some x7) else ((colloquyref13_positive.f k x5 x6).bind fun t188 => (some (IntKind.u64.wrap (x7 + t188)))))
end
def colloquyref13_Quotient.f (k : Nat) (a0 : Int) (a1 : Int) : Option (Int) := (colloquyref13_bound.f a0).bind fun t186 => ((colloquyref13_bound.f a1).bind fun t187 => (if t186 = 0 then (colloquyref13_Quotient.j0 k t186 t187 (t187 == 0)) else (colloquyref13_Quotient.j0 k t186 t187 false)))
theorem colloquyref13_Quotient.mono_l : ∀ k, (∀ y0 y1 y2, LeO (colloquyref13_Quotient.j0 k y0 y1 y2) (colloquyref13_Quotient.j0 (k + 1) y0 y1 y2)) ∧ (∀ y0 y1 y2, LeO (colloquyref13_Quotient.j1 k y0 y1 y2) (colloquyref13_Quotient.j1 (k + 1) y0 y1 y2)) ∧ (∀ y0 y1 y2, LeO (colloquyref13_Quotient.j2 k y0 y1 y2) (colloquyref13_Quotient.j2 (k + 1) y0 y1 y2)) ∧ (∀ y0 y1 y2, LeO (colloquyref13_Quotient.j3 k y0 y1 y2) (colloquyref13_Quotient.j3 (k + 1) y0 y1 y2))
 | 0 => ⟨fun _ _ _ r h => by simp [colloquyref13_Quotient.j0] at h, fun _ _ _ r h => by simp [colloquyref13_Quotient.j1] at h, fun _ _ _ r h => by simp [colloquyref13_Quotient.j2] at h, fun _ _ _ r h => by simp [colloquyref13_Quotient.j3] at h⟩
 | k + 1 => by
  obtain ⟨ih0, ih1, ih2, ih3⟩ := colloquyref13_Quotient.mono_l k
  refine ⟨?_, ?_, ?_, ?_⟩
  ·
   intro y0 y1 y2
   unfold colloquyref13_Quotient.j0
   repeat' first
   | (with_reducible exact ih0 _ _ _)
   | (with_reducible exact ih1 _ _ _)
   | (with_reducible exact ih2 _ _ _)
   | (with_reducible exact ih3 _ _ _)
   | (with_reducible exact colloquyref13_positive.mono _ _ _)
   | (with_reducible exact LeO.refl _)
   | (with_reducible exact LeO.none _)
   | (with_reducible refine LeO.ite ?_ ?_)
   | (with_reducible refine LeO.bind ?_ (fun _ => ?_))
   | exact ih0 _ _ _
   | exact ih1 _ _ _
   | exact ih2 _ _ _
   | exact ih3 _ _ _
   | exact colloquyref13_positive.mono _ _ _
   | exact LeO.none _
   | refine LeO.ite ?_ ?_
   | refine LeO.bind ?_ (fun _ => ?_)
  ·
   intro y0 y1 y2
   unfold colloquyref13_Quotient.j1
   repeat' first
   | (with_reducible exact ih0 _ _ _)
   | (with_reducible exact ih1 _ _ _)
   | (with_reducible exact ih2 _ _ _)
   | (with_reducible exact ih3 _ _ _)
   | (with_reducible exact colloquyref13_positive.mono _ _ _)
   | (with_reducible exact LeO.refl _)
   | (with_reducible exact LeO.none _)
   | (with_reducible refine LeO.ite ?_ ?_)
   | (with_reducible refine LeO.bind ?_ (fun _ => ?_))
   | exact ih0 _ _ _
   | exact ih1 _ _ _
   | exact ih2 _ _ _
   | exact ih3 _ _ _
   | exact colloquyref13_positive.mono _ _ _
   | exact LeO.none _
   | refine LeO.ite ?_ ?_
   | refine LeO.bind ?_ (fun _ => ?_)
  ·
   intro y0 y1 y2
   unfold colloquyref13_Quotient.j2
   repeat' first
   | (with_reducible exact ih0 _ _ _)
   | (with_reducible exact ih1 _ _ _)
   | (with_reducible exact ih2 _ _ _)
   | (with_reducible exact ih3 _ _ _)
   | (with_reducible exact colloquyref13_positive.mono _ _ _)
   | (with_reducible exact LeO.refl _)
   | (with_reducible exact LeO.none _)
   | (with_reducible refine LeO.ite ?_ ?_)
   | (with_reducible refine LeO.bind ?_ (fun _ => ?_))
   | exact ih0 _ _ _
   | exact ih1 _ _ _
   | exact ih2 _ _ _
   | exact ih3 _ _ _
   | exact colloquyref13_positive.mono _ _ _
   | exact LeO.none _
   | refine LeO.ite ?_ ?_
   | refine LeO.bind ?_ (fun _ => ?_)
  ·
   intro y0 y1 y2
   unfold colloquyref13_Quotient.j3
   repeat' first
   | (with_reducible exact ih0 _ _ _)
   | (with_reducible exact ih1 _ _ _)
   | (with_reducible exact ih2 _ _ _)
   | (with_reducible exact ih3 _ _ _)
   | (with_reducible exact colloquyref13_positive.mono _ _ _)
   | (with_reducible exact LeO.refl _)
   | (with_reducible exact LeO.none _)
   | (with_reducible refine LeO.ite ?_ ?_)
   | (with_reducible refine LeO.bind ?_ (fun _ => ?_))
   | exact ih0 _ _ _
   | exact ih1 _ _ _
   | exact ih2 _ _ _
   | exact ih3 _ _ _
   | exact colloquyref13_positive.mono _ _ _
   | exact LeO.none _
   | refine LeO.ite ?_ ?_
   | refine LeO.bind ?_ (fun _ => ?_)
theorem colloquyref13_Quotient.mono : ∀ a0 a1 k, LeO (colloquyref13_Quotient.f k a0 a1) (colloquyref13_Quotient.f (k + 1) a0 a1) := by
 intro a0 a1 k
 obtain ⟨ih0, ih1, ih2, ih3⟩ := colloquyref13_Quotient.mono_l k
 unfold colloquyref13_Quotient.f
 repeat' first
   | (with_reducible exact ih0 _ _ _)
   | (with_reducible exact ih1 _ _ _)
   | (with_reducible exact ih2 _ _ _)
   | (with_reducible exact ih3 _ _ _)
   | (with_reducible exact colloquyref13_positive.mono _ _ _)
   | (with_reducible exact LeO.refl _)
   | (with_reducible exact LeO.none _)
   | (with_reducible refine LeO.ite ?_ ?_)
   | (with_reducible refine LeO.bind ?_ (fun _ => ?_))
   | exact ih0 _ _ _
   | exact ih1 _ _ _
   | exact ih2 _ _ _
   | exact ih3 _ _ _
   | exact colloquyref13_positive.mono _ _ _
   | exact LeO.none _
   | refine LeO.ite ?_ ?_
   | refine LeO.bind ?_ (fun _ => ?_)
set_option maxHeartbeats 8000000 in
set_option maxRecDepth 100000 in
theorem colloquyref13_Quotient.calls (k : Nat) (a0 : Int) (a1 : Int) (r : Int) (w : World) (h : colloquyref13_Quotient.f k a0 a1 = some r) :
  Calls Try.prog 21 #[.int .i64 a0, .int .i64 a1] w fun e w' => e = .returned (.int .u64 r) ∧ Drawn0 w w' := by
 have H : ((colloquyref13_bound.f a0).bind fun t186 => ((colloquyref13_bound.f a1).bind fun t187 => (if t186 = 0 then (colloquyref13_Quotient.j0 k t186 t187 (t187 == 0)) else (colloquyref13_Quotient.j0 k t186 t187 false)))) = some r := h
 clear h
 replace H := Option.bind_eq_some_iff.mp H
 obtain ⟨t186, A30, H⟩ := H
 replace H : ((colloquyref13_bound.f a1).bind fun t187 => (if t186 = 0 then (colloquyref13_Quotient.j0 k t186 t187 (t187 == 0)) else (colloquyref13_Quotient.j0 k t186 t187 false))) = some r := H
 have A3 := Aside0.mk A30
 clear A30
 replace H := Option.bind_eq_some_iff.mp H
 obtain ⟨t187, A40, H⟩ := H
 replace H : (if t186 = 0 then (colloquyref13_Quotient.j0 k t186 t187 (t187 == 0)) else (colloquyref13_Quotient.j0 k t186 t187 false)) = some r := H
 have A4 := Aside0.mk A40
 clear A40
 have HC5 := Aside0.mk H
 clear H
 go_enter Try.func21, Try.ntmps21
 go_upto_region 3 with (first | ((with_reducible refine gate_callee (f := 36) rfl ?_); refine goesL_ (some 9) rfl rfl Try.func36 (by kernel_rfl) rfl #[.int .i64 a0] rfl (by (try simp only [List.map_toArray, List.map_cons, List.map_nil]); first | done | rfl | (simp only [List.length_drop, List.length_take]; rfl)) ?_; (with_reducible refine (colloquyref13_bound.calls a0 t186 _ A3.out).mono ?_); rintro e w' ⟨rfl, ⟨nd, rfl⟩⟩; refine ⟨_, rfl, ?_⟩) | ((with_reducible refine gate_callee (f := 36) rfl ?_); refine goesL_ (some 11) rfl rfl Try.func36 (by kernel_rfl) rfl #[.int .i64 a1] rfl (by (try simp only [List.map_toArray, List.map_cons, List.map_nil]); first | done | rfl | (simp only [List.length_drop, List.length_take]; rfl)) ?_; (with_reducible refine (colloquyref13_bound.calls a1 t187 _ A4.out).mono ?_); rintro e w' ⟨rfl, ⟨nd, rfl⟩⟩; refine ⟨_, rfl, ?_⟩))
 (try simp only [Act.put, List.setIfInBounds_toArray, List.set_cons_zero, List.set_cons_succ])
 go_cut [17] (fun v17 wc => ∃ (kq : Nat) (x17_4 : Bool), v17 = .bool x17_4 ∧ Aside0 (colloquyref13_Quotient.j0 kq t186 t187 x17_4 = some r) ∧ Aside0 (kq ≤ k) ∧ Drawn0 w wc)
 case first =>
  have H := HC5.out
  clear HC5
  by_cases c6 : t186 = 0
  ·
   rw [if_pos c6] at H
   have c6b0 : (t186 == 0) = true := beq_iff_eq.mpr c6
   have c6b1 : (t186 != 0) = false := bne_eq_false_iff_eq.mpr c6
   clear c6
   (first | rw [c6b0] | (simp only [i64_w, i32_w]; rw [c6b0]) | skip)
   have H' := Aside0.mk H
   clear H
   go_wp2
   go_meet
   case rel => exact ⟨_, ((t187 == 0)), (by first | rfl | (simp; done) | (simp [*]; done)), H', ⟨by first | omega | exact Nat.le_refl _⟩, by repeat (first | exact Drawn0.refl _ | apply Drawn0.step)⟩
  ·
   rw [if_neg c6] at H
   have c6b0 : (t186 == 0) = false := beq_eq_false_iff_ne.mpr c6
   have c6b1 : (t186 != 0) = true := bne_iff_ne.mpr c6
   (first | rw [c6b0] | (simp only [i64_w, i32_w]; rw [c6b0]) | skip)
   have H' := Aside0.mk H
   clear H
   go_wp2
   go_meet
   case rel => exact ⟨_, (false), (by first | rfl | (simp; done) | (simp [*]; done)), H', ⟨by first | omega | exact Nat.le_refl _⟩, by repeat (first | exact Drawn0.refl _ | apply Drawn0.step)⟩
 case rest =>
  clear HC5
  try clear c2
  try clear p2
  try clear c3
  try clear c6
  try clear c6b0
  try clear c6b1
  obtain ⟨kq, x17_4, rfl, HA, HJ4, ⟨mc4, rfl⟩⟩ := hcut
  cases kq with
  | zero => exact absurd HA.out (by simp [colloquyref13_Quotient.j0])
  | succ kj4 =>
   have H := HA.out
   clear HA
   simp only [colloquyref13_Quotient.j0] at H
   by_cases c7 : x17_4 = true
   ·
    subst c7
    have H1 : (some 9221120237041090560) = some r := by rw [if_pos rfl] at H; exact H
    clear H
    have H := H1
    clear H1
    obtain rfl := Option.some.inj H
    go_wp2
    go_ret
    exact ⟨by first | rfl | (simp; done) | (simp [*]; done), by repeat (first | exact Drawn0.refl _ | apply Drawn0.step)⟩
   ·
    replace c7 := Bool.eq_false_iff.mpr c7
    subst c7
    have H1 : (if ((decide (t186 < 0)) != (decide (t187 < 0))) = true then (colloquyref13_Quotient.j1 kj4 t186 t187 9223372036854775808) else (colloquyref13_Quotient.j1 kj4 t186 t187 0)) = some r := by rw [if_neg (show ¬ (false = true) by decide)] at H; exact H
    clear H
    have H := H1
    clear H1
    have HC8 := Aside0.mk H
    clear H
    go_upto_if 22 with (fail)
    go_cut [7] (fun v7 wc => ∃ (kq : Nat) (x7_7 : Int), v7 = .int .u64 x7_7 ∧ Aside0 (colloquyref13_Quotient.j1 kq t186 t187 x7_7 = some r) ∧ Aside0 (kq ≤ kj4) ∧ Drawn0 w wc)
    case first =>
     have H := HC8.out
     clear HC8
     by_cases c9 : ((decide (t186 < 0)) != (decide (t187 < 0))) = true
     ·
      rw [if_pos c9] at H
      have c9b0 : ((decide (t186 < 0)) != (decide (t187 < 0))) = true := c9
      have c9bN : (!(decide (t186 < 0) == decide (t187 < 0))) = true := by (have q_ := c9b0; revert q_; generalize decide (t186 < 0) = p_; generalize decide (t187 < 0) = s_; cases p_ <;> cases s_ <;> simp)
      (try (have c9b1 : decide ((decide (t186 < 0)) = (decide (t187 < 0))) = false := by simpa using c9))
      (try (have c9b2 : ((decide (t186 < 0)) == (decide (t187 < 0))) = false := by simpa using c9))
      (try (have c9b3 : ¬ ((decide (t186 < 0)) = (decide (t187 < 0))) := by simpa using c9))
      clear c9
      (first | rw [c9b0] | rw [c9bN] | rw [c9bN] | (simp only [i64_w, i32_w]; rw [c9b0]) | skip)
      have H' := Aside0.mk H
      clear H
      go_wp2
      go_meet
      case rel => exact ⟨_, (9223372036854775808), (by first | rfl | (simp; done) | (simp [*]; done)), H', ⟨by have := HJ4.out; first | omega | exact Nat.le_refl _⟩, by repeat (first | exact Drawn0.refl _ | apply Drawn0.step)⟩
     ·
      rw [if_neg c9] at H
      have c9b0 : ((decide (t186 < 0)) != (decide (t187 < 0))) = false := by simpa using c9
      have c9bN : (!(decide (t186 < 0) == decide (t187 < 0))) = false := by (have q_ := c9b0; revert q_; generalize decide (t186 < 0) = p_; generalize decide (t187 < 0) = s_; cases p_ <;> cases s_ <;> simp)
      (try (have c9b1 : decide ((decide (t186 < 0)) = (decide (t187 < 0))) = true := by simpa using c9))
      (try (have c9b2 : ((decide (t186 < 0)) == (decide (t187 < 0))) = true := by simpa using c9))
      clear c9
      (first | rw [c9b0] | rw [c9bN] | rw [c9bN] | (simp only [i64_w, i32_w]; rw [c9b0]) | skip)
      have H' := Aside0.mk H
      clear H
      go_wp2
      go_meet
      case rel => exact ⟨_, (0), (by first | rfl | (simp; done) | (simp [*]; done)), H', ⟨by have := HJ4.out; first | omega | exact Nat.le_refl _⟩, by repeat (first | exact Drawn0.refl _ | apply Drawn0.step)⟩
    case rest =>
     clear HC8
     try clear c2
     try clear p2
     try clear c3
     try clear c4
     try clear c6
     try clear c6b0
     try clear c6b1
     try clear c7
     try clear c9
     try clear c9b0
     try clear c9b1
     try clear c9b2
     try clear p2
     obtain ⟨kq, x7_7, rfl, HA, HJ7, ⟨mc7, rfl⟩⟩ := hcut
     cases kq with
     | zero => exact absurd HA.out (by simp [colloquyref13_Quotient.j1])
     | succ kj7 =>
      have H := HA.out
      clear HA
      simp only [colloquyref13_Quotient.j1] at H
      have HC10 := Aside0.mk H
      clear H
      go_upto_if 24 with (fail)
      go_cut [5] (fun v5 wc => ∃ (kq : Nat) (x5_9 : Int), v5 = .int .i64 x5_9 ∧ Aside0 (colloquyref13_Quotient.j2 kq x5_9 t187 x7_7 = some r) ∧ Aside0 (kq ≤ kj7) ∧ Drawn0 w wc)
      case first =>
       have H := HC10.out
       clear HC10
       by_cases c11 : t186 < 0
       ·
        rw [if_pos c11] at H
        have c11b0 : decide (t186 < 0) = true := decide_eq_true c11
        clear c11
        (first | rw [c11b0] | (simp only [i64_w, i32_w]; rw [c11b0]) | skip)
        have H' := Aside0.mk H
        clear H
        go_wp2
        go_meet
        case rel => exact ⟨_, (wrap64 (-t186)), (by first | rfl | (simp; done) | (simp [*]; done)), H', ⟨by have := HJ4.out; have := HJ7.out; first | omega | exact Nat.le_refl _⟩, by repeat (first | exact Drawn0.refl _ | apply Drawn0.step)⟩
       ·
        rw [if_neg c11] at H
        have c11b0 : decide (t186 < 0) = false := decide_eq_false c11
        clear c11
        (first | rw [c11b0] | (simp only [i64_w, i32_w]; rw [c11b0]) | skip)
        have H' := Aside0.mk H
        clear H
        go_wp2
        go_meet
        case rel => exact ⟨_, (t186), (by first | rfl | (simp; done) | (simp [*]; done)), H', ⟨by have := HJ4.out; have := HJ7.out; first | omega | exact Nat.le_refl _⟩, by repeat (first | exact Drawn0.refl _ | apply Drawn0.step)⟩
      case rest =>
       clear HC10
       try clear c1
       try clear c2
       try clear p2
       try clear c3
       try clear c4
       try clear c6
       try clear c6b0
       try clear c6b1
       try clear p6
       try clear c7
       try clear c9
       try clear c9b0
       try clear c9b1
       try clear c9b2
       try clear c11
       try clear c11b0
       try clear p2
       obtain ⟨kq, x5_9, rfl, HA, HJ9, ⟨mc9, rfl⟩⟩ := hcut
       cases kq with
       | zero => exact absurd HA.out (by simp [colloquyref13_Quotient.j2])
       | succ kj9 =>
        have H := HA.out
        clear HA
        simp only [colloquyref13_Quotient.j2] at H
        have HC12 := Aside0.mk H
        clear H
        go_upto_if 28 with (fail)
        go_cut [6] (fun v6 wc => ∃ (kq : Nat) (x6_11 : Int), v6 = .int .i64 x6_11 ∧ Aside0 (colloquyref13_Quotient.j3 kq x5_9 x6_11 x7_7 = some r) ∧ Aside0 (kq ≤ kj9) ∧ Drawn0 w wc)
        case first =>
         have H := HC12.out
         clear HC12
         by_cases c13 : t187 < 0
         ·
          rw [if_pos c13] at H
          have c13b0 : decide (t187 < 0) = true := decide_eq_true c13
          clear c13
          (first | rw [c13b0] | (simp only [i64_w, i32_w]; rw [c13b0]) | skip)
          have H' := Aside0.mk H
          clear H
          go_wp2
          go_meet
          case rel => exact ⟨_, (wrap64 (-t187)), (by first | rfl | (simp; done) | (simp [*]; done)), H', ⟨by have := HJ4.out; have := HJ7.out; have := HJ9.out; first | omega | exact Nat.le_refl _⟩, by repeat (first | exact Drawn0.refl _ | apply Drawn0.step)⟩
         ·
          rw [if_neg c13] at H
          have c13b0 : decide (t187 < 0) = false := decide_eq_false c13
          clear c13
          (first | rw [c13b0] | (simp only [i64_w, i32_w]; rw [c13b0]) | skip)
          have H' := Aside0.mk H
          clear H
          go_wp2
          go_meet
          case rel => exact ⟨_, (t187), (by first | rfl | (simp; done) | (simp [*]; done)), H', ⟨by have := HJ4.out; have := HJ7.out; have := HJ9.out; first | omega | exact Nat.le_refl _⟩, by repeat (first | exact Drawn0.refl _ | apply Drawn0.step)⟩
        case rest =>
         clear HC12
         try clear c1
         try clear c2
         try clear p2
         try clear c3
         try clear c4
         try clear c6
         try clear c6b0
         try clear c6b1
         try clear p6
         try clear c7
         try clear c9
         try clear c9b0
         try clear c9b1
         try clear c9b2
         try clear c11
         try clear c11b0
         try clear c13
         try clear c13b0
         try clear p2
         try clear p6
         obtain ⟨kq, x6_11, rfl, HA, HJ11, ⟨mc11, rfl⟩⟩ := hcut
         cases kq with
         | zero => exact absurd HA.out (by simp [colloquyref13_Quotient.j3])
         | succ kj11 =>
          have H := HA.out
          clear HA
          simp only [colloquyref13_Quotient.j3] at H
          by_cases c14 : x6_11 = 0
          ·
           rw [if_pos c14] at H
           have c14b0 : (x6_11 == 0) = true := beq_iff_eq.mpr c14
           have c14b1 : (x6_11 != 0) = false := bne_eq_false_iff_eq.mpr c14
           clear c14
           obtain rfl := Option.some.inj H
           go_wp2
           go_ret
           exact ⟨by first | rfl | (simp; done) | (simp [*]; done), by repeat (first | exact Drawn0.refl _ | apply Drawn0.step)⟩
          ·
           rw [if_neg c14] at H
           have c14b0 : (x6_11 == 0) = false := beq_eq_false_iff_ne.mpr c14
           have c14b1 : (x6_11 != 0) = true := bne_iff_ne.mpr c14
           by_cases c15 : x5_9 = 0
           ·
            rw [if_pos c15] at H
            have c15b0 : (x5_9 == 0) = true := beq_iff_eq.mpr c15
            have c15b1 : (x5_9 != 0) = false := bne_eq_false_iff_eq.mpr c15
            clear c15
            obtain rfl := Option.some.inj H
            go_wp2
            go_ret
            exact ⟨by first | rfl | (simp; done) | (simp [*]; done), by repeat (first | exact Drawn0.refl _ | apply Drawn0.step)⟩
           ·
            rw [if_neg c15] at H
            have c15b0 : (x5_9 == 0) = false := beq_eq_false_iff_ne.mpr c15
            have c15b1 : (x5_9 != 0) = true := bne_iff_ne.mpr c15
            replace H := Option.bind_eq_some_iff.mp H
            obtain ⟨t188, A160, H⟩ := H
            replace H : (some (IntKind.u64.wrap (x7_7 + t188))) = some r := H
            have A16 := Aside0.mk A160
            clear A160
            obtain rfl := Option.some.inj H
            go_wp2_with (first | ((with_reducible refine gate_callee (f := 37) rfl ?_); refine goesL_ (some 41) rfl rfl Try.func37 (by kernel_rfl) rfl #[.int .i64 x5_9, .int .i64 x6_11] rfl (by (try simp only [List.map_toArray, List.map_cons, List.map_nil]); first | done | rfl | (simp only [List.length_drop, List.length_take]; rfl)) ?_; (with_reducible refine (colloquyref13_positive.calls kj11 x5_9 x6_11 t188 _ A16.out).mono ?_); rintro e w' ⟨rfl, ⟨nd, rfl⟩⟩; refine ⟨_, rfl, ?_⟩))
            go_ret
            exact ⟨by first | rfl | (simp; done) | (simp [*]; done), by repeat (first | exact Drawn0.refl _ | apply Drawn0.step)⟩

/-! ### score_Of: function 22, by hand -/
-- making: no
def score_Of.f (n : Int) : Option Int := some ((Fl.wholeW n : Nat) : Int)
theorem score_Of.calls (a0 : Int) (r : Int) (w : World) (h : score_Of.f a0 = some r) :
    Calls Try.prog 22 #[.int .i64 a0] w fun e w' => e = .returned (.int .u64 r) ∧ Drawn0 w w' := by
  obtain rfl := Option.some.inj h
  refine (of_calls a0 w).mono ?_
  rintro e w1 ⟨rfl, q, rfl⟩
  exact ⟨rfl, q, rfl⟩

/-! ### colloquyref13_Of: function 23 -/
def colloquyref13_Of.f (k : Nat) (a0 : Int) : Option (Int) := if a0 = 0 then (some 0) else ((colloquyref13_Quotient.f k a0 1).bind fun t189 => (some t189))
theorem colloquyref13_Of.mono : ∀ a0 k, LeO (colloquyref13_Of.f k a0) (colloquyref13_Of.f (k + 1) a0) := by
 intro a0 k
 unfold colloquyref13_Of.f
 repeat' first
   | (with_reducible exact colloquyref13_Quotient.mono _ _ _)
   | (with_reducible exact LeO.refl _)
   | (with_reducible exact LeO.none _)
   | (with_reducible refine LeO.ite ?_ ?_)
   | (with_reducible refine LeO.bind ?_ (fun _ => ?_))
   | exact colloquyref13_Quotient.mono _ _ _
   | exact LeO.none _
   | refine LeO.ite ?_ ?_
   | refine LeO.bind ?_ (fun _ => ?_)
set_option maxHeartbeats 8000000 in
set_option maxRecDepth 100000 in
theorem colloquyref13_Of.calls (k : Nat) (a0 : Int) (r : Int) (w : World) (h : colloquyref13_Of.f k a0 = some r) :
  Calls Try.prog 23 #[.int .i64 a0] w fun e w' => e = .returned (.int .u64 r) ∧ Drawn0 w w' := by
 have H : (if a0 = 0 then (some 0) else ((colloquyref13_Quotient.f k a0 1).bind fun t189 => (some t189))) = some r := h
 clear h
 by_cases c2 : a0 = 0
 ·
  rw [if_pos c2] at H
  have c2b0 : (a0 == 0) = true := beq_iff_eq.mpr c2
  have c2b1 : (a0 != 0) = false := bne_eq_false_iff_eq.mpr c2
  clear c2
  obtain rfl := Option.some.inj H
  go_enter Try.func23, Try.ntmps23
  go_wp2
  go_ret
  exact ⟨by first | rfl | (simp; done) | (simp [*]; done), by repeat (first | exact Drawn0.refl _ | apply Drawn0.step)⟩
 ·
  rw [if_neg c2] at H
  have c2b0 : (a0 == 0) = false := beq_eq_false_iff_ne.mpr c2
  have c2b1 : (a0 != 0) = true := bne_iff_ne.mpr c2
  replace H := Option.bind_eq_some_iff.mp H
  obtain ⟨t189, A30, H⟩ := H
  replace H : (some t189) = some r := H
  have A3 := Aside0.mk A30
  clear A30
  obtain rfl := Option.some.inj H
  go_enter Try.func23, Try.ntmps23
  go_wp2_with (first | ((with_reducible refine gate_callee (f := 21) rfl ?_); refine goesL_ (some 6) rfl rfl Try.func21 (by kernel_rfl) rfl #[.int .i64 a0, .int .i64 1] rfl (by (try simp only [List.map_toArray, List.map_cons, List.map_nil]); first | done | rfl | (simp only [List.length_drop, List.length_take]; rfl)) ?_; (with_reducible refine (colloquyref13_Quotient.calls k a0 1 t189 _ A3.out).mono ?_); rintro e w' ⟨rfl, ⟨nd, rfl⟩⟩; refine ⟨_, rfl, ?_⟩))
  go_ret
  exact ⟨by first | rfl | (simp; done) | (simp [*]; done), by repeat (first | exact Drawn0.refl _ | apply Drawn0.step)⟩

/-! ### colloquylaw13_ScoreDivides: function 7 -/
def colloquylaw13_ScoreDivides.f (k : Nat) (a0 : Int) (a1 : Int) : Option (Bool) := (colloquylaw13_awake.f).bind fun t190 => (if t190 = true then ((score_Quotient.f a0 a1).bind fun t191 => ((colloquyref13_Quotient.f k a0 a1).bind fun t192 => (if t191 = t192 then ((score_Of.f a0).bind fun t193 => ((colloquyref13_Of.f k a0).bind fun t194 => (some (t193 == t194)))) else (some false)))) else (some false))
theorem colloquylaw13_ScoreDivides.mono : ∀ a0 a1 k, LeO (colloquylaw13_ScoreDivides.f k a0 a1) (colloquylaw13_ScoreDivides.f (k + 1) a0 a1) := by
 intro a0 a1 k
 unfold colloquylaw13_ScoreDivides.f
 repeat' first
   | (with_reducible exact colloquyref13_Of.mono _ _)
   | (with_reducible exact colloquyref13_Quotient.mono _ _ _)
   | (with_reducible exact LeO.refl _)
   | (with_reducible exact LeO.none _)
   | (with_reducible refine LeO.ite ?_ ?_)
   | (with_reducible refine LeO.bind ?_ (fun _ => ?_))
   | exact colloquyref13_Of.mono _ _
   | exact colloquyref13_Quotient.mono _ _ _
   | exact LeO.none _
   | refine LeO.ite ?_ ?_
   | refine LeO.bind ?_ (fun _ => ?_)
set_option maxHeartbeats 8000000 in
set_option maxRecDepth 100000 in
theorem colloquylaw13_ScoreDivides.calls (k : Nat) (a0 : Int) (a1 : Int) (r : Bool) (w : World) (hrt : r = true) (h : colloquylaw13_ScoreDivides.f k a0 a1 = some r) :
  Calls Try.prog 7 #[.int .i64 a0, .int .i64 a1] w fun e w' => e = .returned (.bool r) ∧ Drawn0 w w' := by
 have HRT := Aside0.mk hrt
 clear hrt
 have H : ((colloquylaw13_awake.f).bind fun t190 => (if t190 = true then ((score_Quotient.f a0 a1).bind fun t191 => ((colloquyref13_Quotient.f k a0 a1).bind fun t192 => (if t191 = t192 then ((score_Of.f a0).bind fun t193 => ((colloquyref13_Of.f k a0).bind fun t194 => (some (t193 == t194)))) else (some false)))) else (some false))) = some r := h
 clear h
 replace H := Option.bind_eq_some_iff.mp H
 obtain ⟨t190, A30, H⟩ := H
 replace H : (if t190 = true then ((score_Quotient.f a0 a1).bind fun t191 => ((colloquyref13_Quotient.f k a0 a1).bind fun t192 => (if t191 = t192 then ((score_Of.f a0).bind fun t193 => ((colloquyref13_Of.f k a0).bind fun t194 => (some (t193 == t194)))) else (some false)))) else (some false)) = some r := H
 have A3 := Aside0.mk A30
 clear A30
 by_cases c4 : t190 = true
 ·
  subst c4
  have H1 : ((score_Quotient.f a0 a1).bind fun t191 => ((colloquyref13_Quotient.f k a0 a1).bind fun t192 => (if t191 = t192 then ((score_Of.f a0).bind fun t193 => ((colloquyref13_Of.f k a0).bind fun t194 => (some (t193 == t194)))) else (some false)))) = some r := by rw [if_pos rfl] at H; exact H
  clear H
  have H := H1
  clear H1
  replace H := Option.bind_eq_some_iff.mp H
  obtain ⟨t191, A50, H⟩ := H
  replace H : ((colloquyref13_Quotient.f k a0 a1).bind fun t192 => (if t191 = t192 then ((score_Of.f a0).bind fun t193 => ((colloquyref13_Of.f k a0).bind fun t194 => (some (t193 == t194)))) else (some false))) = some r := H
  have A5 := Aside0.mk A50
  clear A50
  replace H := Option.bind_eq_some_iff.mp H
  obtain ⟨t192, A60, H⟩ := H
  replace H : (if t191 = t192 then ((score_Of.f a0).bind fun t193 => ((colloquyref13_Of.f k a0).bind fun t194 => (some (t193 == t194)))) else (some false)) = some r := H
  have A6 := Aside0.mk A60
  clear A60
  by_cases c7 : t191 = t192
  ·
   rw [if_pos c7] at H
   have c7b0 : (t191 == t192) = true := beq_iff_eq.mpr c7
   have c7b1 : (t191 != t192) = false := bne_eq_false_iff_eq.mpr c7
   clear c7
   replace H := Option.bind_eq_some_iff.mp H
   obtain ⟨t193, A80, H⟩ := H
   replace H : ((colloquyref13_Of.f k a0).bind fun t194 => (some (t193 == t194))) = some r := H
   have A8 := Aside0.mk A80
   clear A80
   replace H := Option.bind_eq_some_iff.mp H
   obtain ⟨t194, A90, H⟩ := H
   replace H : (some (t193 == t194)) = some r := H
   have A9 := Aside0.mk A90
   clear A90
   obtain rfl := Option.some.inj H
   go_enter Try.func7, Try.ntmps7
   go_wp2_with (first | ((with_reducible refine gate_callee (f := 12) rfl ?_); refine goesL_ (some 6) rfl rfl Try.func12 (by kernel_rfl) rfl #[] rfl (by (try simp only [List.map_toArray, List.map_cons, List.map_nil]); first | done | rfl | (simp only [List.length_drop, List.length_take]; rfl)) ?_; (with_reducible refine (colloquylaw13_awake.calls  true _ A3.out).mono ?_); rintro e w' ⟨rfl, ⟨nd, rfl⟩⟩; refine ⟨_, rfl, ?_⟩) | (go_at_call 20; (with_reducible refine (score_Quotient.calls a0 a1 t191 _ A5.out).mono ?_); rintro e w' ⟨rfl, ⟨nd, rfl⟩⟩) | (go_at_call 21; (with_reducible refine (colloquyref13_Quotient.calls k a0 a1 t192 _ A6.out).mono ?_); rintro e w' ⟨rfl, ⟨nd, rfl⟩⟩) | (go_at_call 22; (with_reducible refine (score_Of.calls a0 t193 _ A8.out).mono ?_); rintro e w' ⟨rfl, ⟨nd, rfl⟩⟩) | (go_at_call 23; (with_reducible refine (colloquyref13_Of.calls k a0 t194 _ A9.out).mono ?_); rintro e w' ⟨rfl, ⟨nd, rfl⟩⟩))
   go_ret
   exact ⟨by first | rfl | (simp; done) | (simp [*]; done), by repeat (first | exact Drawn0.refl _ | apply Drawn0.step)⟩
  ·
   rw [if_neg c7] at H
   have c7b0 : (t191 == t192) = false := beq_eq_false_iff_ne.mpr c7
   have c7b1 : (t191 != t192) = true := bne_iff_ne.mpr c7
   exact absurd (Option.some.inj H) (by rw [HRT.out]; decide)
 ·
  replace c4 := Bool.eq_false_iff.mpr c4
  subst c4
  have H1 : (some false) = some r := by rw [if_neg (show ¬ (false = true) by decide)] at H; exact H
  clear H
  have H := H1
  clear H1
  exact absurd (Option.some.inj H) (by rw [HRT.out]; decide)

/-- THE ONE PURE STATEMENT of colloquylaw13_ScoreDivides: yours. -/
def colloquylaw13_ScoreDivides.Pure : Prop := ∀ (a0 : Int) (a1 : Int), (Lit.int .i64 a0).wf = true → (Lit.int .i64 a1).wf = true → ∃ k, colloquylaw13_ScoreDivides.f k a0 a1 = some true
theorem colloquylaw13_ScoreDivides.walk (P : colloquylaw13_ScoreDivides.Pure) (a0 : Int) (a1 : Int) (w : World) (w0 : (Lit.int .i64 a0).wf = true) (w1 : (Lit.int .i64 a1).wf = true) :
  Calls Try.prog 7 #[.int .i64 a0, .int .i64 a1] w fun e w' => e = .returned (.bool true) ∧ Below w.heap.size w w' := by
 obtain ⟨k, h⟩ := P a0 a1 w0 w1
 refine (colloquylaw13_ScoreDivides.calls k a0 a1 true w rfl h).mono ?_
 rintro e w' ⟨rfl, hd⟩
 exact ⟨rfl, hd.below⟩

/-! ### colloquylaw13_ScoreTotal: function 8 -/
def colloquylaw13_ScoreTotal.f (a0 : Int) (a1 : Int) (a2 : Int) : Option (Bool) := (colloquylaw13_awake.f).bind fun t195 => ((score_Cmp.f a0 a1).bind fun t196 => ((score_Cmp.f a1 a2).bind fun t197 => ((score_Cmp.f a1 a0).bind fun t198 => (if t196 = (wrap64 (-t198)) then (if t196 < (-1) then (some false) else (if t196 > 1 then (some false) else ((score_Cmp.f a0 a0).bind fun t199 => (if t199 = 0 then (if t195 = true then (if t196 > 0 then (some true) else (if t197 > 0 then (some true) else ((score_Cmp.f a0 a2).bind fun t200 => (some (decide (t200 ≤ 0)))))) else (some false)) else (some false))))) else (some false)))))
set_option maxHeartbeats 8000000 in
set_option maxRecDepth 100000 in
theorem colloquylaw13_ScoreTotal.calls (a0 : Int) (a1 : Int) (a2 : Int) (r : Bool) (w : World) (hrt : r = true) (h : colloquylaw13_ScoreTotal.f a0 a1 a2 = some r) :
  Calls Try.prog 8 #[.int .u64 a0, .int .u64 a1, .int .u64 a2] w fun e w' => e = .returned (.bool r) ∧ Drawn0 w w' := by
 have HRT := Aside0.mk hrt
 clear hrt
 have H : ((colloquylaw13_awake.f).bind fun t195 => ((score_Cmp.f a0 a1).bind fun t196 => ((score_Cmp.f a1 a2).bind fun t197 => ((score_Cmp.f a1 a0).bind fun t198 => (if t196 = (wrap64 (-t198)) then (if t196 < (-1) then (some false) else (if t196 > 1 then (some false) else ((score_Cmp.f a0 a0).bind fun t199 => (if t199 = 0 then (if t195 = true then (if t196 > 0 then (some true) else (if t197 > 0 then (some true) else ((score_Cmp.f a0 a2).bind fun t200 => (some (decide (t200 ≤ 0)))))) else (some false)) else (some false))))) else (some false)))))) = some r := h
 clear h
 replace H := Option.bind_eq_some_iff.mp H
 obtain ⟨t195, A40, H⟩ := H
 replace H : ((score_Cmp.f a0 a1).bind fun t196 => ((score_Cmp.f a1 a2).bind fun t197 => ((score_Cmp.f a1 a0).bind fun t198 => (if t196 = (wrap64 (-t198)) then (if t196 < (-1) then (some false) else (if t196 > 1 then (some false) else ((score_Cmp.f a0 a0).bind fun t199 => (if t199 = 0 then (if t195 = true then (if t196 > 0 then (some true) else (if t197 > 0 then (some true) else ((score_Cmp.f a0 a2).bind fun t200 => (some (decide (t200 ≤ 0)))))) else (some false)) else (some false))))) else (some false))))) = some r := H
 have A4 := Aside0.mk A40
 clear A40
 replace H := Option.bind_eq_some_iff.mp H
 obtain ⟨t196, A50, H⟩ := H
 replace H : ((score_Cmp.f a1 a2).bind fun t197 => ((score_Cmp.f a1 a0).bind fun t198 => (if t196 = (wrap64 (-t198)) then (if t196 < (-1) then (some false) else (if t196 > 1 then (some false) else ((score_Cmp.f a0 a0).bind fun t199 => (if t199 = 0 then (if t195 = true then (if t196 > 0 then (some true) else (if t197 > 0 then (some true) else ((score_Cmp.f a0 a2).bind fun t200 => (some (decide (t200 ≤ 0)))))) else (some false)) else (some false))))) else (some false)))) = some r := H
 have A5 := Aside0.mk A50
 clear A50
 replace H := Option.bind_eq_some_iff.mp H
 obtain ⟨t197, A60, H⟩ := H
 replace H : ((score_Cmp.f a1 a0).bind fun t198 => (if t196 = (wrap64 (-t198)) then (if t196 < (-1) then (some false) else (if t196 > 1 then (some false) else ((score_Cmp.f a0 a0).bind fun t199 => (if t199 = 0 then (if t195 = true then (if t196 > 0 then (some true) else (if t197 > 0 then (some true) else ((score_Cmp.f a0 a2).bind fun t200 => (some (decide (t200 ≤ 0)))))) else (some false)) else (some false))))) else (some false))) = some r := H
 have A6 := Aside0.mk A60
 clear A60
 replace H := Option.bind_eq_some_iff.mp H
 obtain ⟨t198, A70, H⟩ := H
 replace H : (if t196 = (wrap64 (-t198)) then (if t196 < (-1) then (some false) else (if t196 > 1 then (some false) else ((score_Cmp.f a0 a0).bind fun t199 => (if t199 = 0 then (if t195 = true then (if t196 > 0 then (some true) else (if t197 > 0 then (some true) else ((score_Cmp.f a0 a2).bind fun t200 => (some (decide (t200 ≤ 0)))))) else (some false)) else (some false))))) else (some false)) = some r := H
 have A7 := Aside0.mk A70
 clear A70
 by_cases c8 : t196 = (wrap64 (-t198))
 ·
  rw [if_pos c8] at H
  have c8b0 : (t196 == (wrap64 (-t198))) = true := beq_iff_eq.mpr c8
  have c8b1 : (t196 != (wrap64 (-t198))) = false := bne_eq_false_iff_eq.mpr c8
  clear c8
  by_cases c9 : t196 < (-1)
  ·
   rw [if_pos c9] at H
   have c9b0 : decide (t196 < (-1)) = true := decide_eq_true c9
   clear c9
   exact absurd (Option.some.inj H) (by rw [HRT.out]; decide)
  ·
   rw [if_neg c9] at H
   have c9b0 : decide (t196 < (-1)) = false := decide_eq_false c9
   clear c9
   by_cases c10 : t196 > 1
   ·
    rw [if_pos c10] at H
    have c10b0 : decide (1 < t196) = true := decide_eq_true c10
    clear c10
    exact absurd (Option.some.inj H) (by rw [HRT.out]; decide)
   ·
    rw [if_neg c10] at H
    have c10b0 : decide (1 < t196) = false := decide_eq_false c10
    clear c10
    replace H := Option.bind_eq_some_iff.mp H
    obtain ⟨t199, A110, H⟩ := H
    replace H : (if t199 = 0 then (if t195 = true then (if t196 > 0 then (some true) else (if t197 > 0 then (some true) else ((score_Cmp.f a0 a2).bind fun t200 => (some (decide (t200 ≤ 0)))))) else (some false)) else (some false)) = some r := H
    have A11 := Aside0.mk A110
    clear A110
    by_cases c12 : t199 = 0
    ·
     rw [if_pos c12] at H
     have c12b0 : (t199 == 0) = true := beq_iff_eq.mpr c12
     have c12b1 : (t199 != 0) = false := bne_eq_false_iff_eq.mpr c12
     clear c12
     by_cases c13 : t195 = true
     ·
      subst c13
      have H1 : (if t196 > 0 then (some true) else (if t197 > 0 then (some true) else ((score_Cmp.f a0 a2).bind fun t200 => (some (decide (t200 ≤ 0)))))) = some r := by rw [if_pos rfl] at H; exact H
      clear H
      have H := H1
      clear H1
      by_cases c14 : t196 > 0
      ·
       rw [if_pos c14] at H
       have c14b0 : decide (0 < t196) = true := decide_eq_true c14
       clear c14
       obtain rfl := Option.some.inj H
       go_enter Try.func8, Try.ntmps8
       go_wp2_with (first | ((with_reducible refine gate_callee (f := 12) rfl ?_); refine goesL_ (some 10) rfl rfl Try.func12 (by kernel_rfl) rfl #[] rfl (by (try simp only [List.map_toArray, List.map_cons, List.map_nil]); first | done | rfl | (simp only [List.length_drop, List.length_take]; rfl)) ?_; (with_reducible refine (colloquylaw13_awake.calls  true _ A4.out).mono ?_); rintro e w' ⟨rfl, ⟨nd, rfl⟩⟩; refine ⟨_, rfl, ?_⟩) | ((with_reducible refine gate_callee (f := 18) rfl ?_); refine goesL_ (some 13) rfl rfl Try.func18 (by kernel_rfl) rfl #[.int .u64 a0, .int .u64 a1] rfl (by (try simp only [List.map_toArray, List.map_cons, List.map_nil]); first | done | rfl | (simp only [List.length_drop, List.length_take]; rfl)) ?_; (with_reducible refine (score_Cmp.calls a0 a1 t196 _ A5.out).mono ?_); rintro e w' ⟨rfl, ⟨nd, rfl⟩⟩; refine ⟨_, rfl, ?_⟩) | ((with_reducible refine gate_callee (f := 18) rfl ?_); refine goesL_ (some 16) rfl rfl Try.func18 (by kernel_rfl) rfl #[.int .u64 a1, .int .u64 a2] rfl (by (try simp only [List.map_toArray, List.map_cons, List.map_nil]); first | done | rfl | (simp only [List.length_drop, List.length_take]; rfl)) ?_; (with_reducible refine (score_Cmp.calls a1 a2 t197 _ A6.out).mono ?_); rintro e w' ⟨rfl, ⟨nd, rfl⟩⟩; refine ⟨_, rfl, ?_⟩) | ((with_reducible refine gate_callee (f := 18) rfl ?_); refine goesL_ (some 20) rfl rfl Try.func18 (by kernel_rfl) rfl #[.int .u64 a1, .int .u64 a0] rfl (by (try simp only [List.map_toArray, List.map_cons, List.map_nil]); first | done | rfl | (simp only [List.length_drop, List.length_take]; rfl)) ?_; (with_reducible refine (score_Cmp.calls a1 a0 t198 _ A7.out).mono ?_); rintro e w' ⟨rfl, ⟨nd, rfl⟩⟩; refine ⟨_, rfl, ?_⟩) | (go_at_call 18; (with_reducible refine (score_Cmp.calls a0 a0 t199 _ A11.out).mono ?_); rintro e w' ⟨rfl, ⟨nd, rfl⟩⟩))
       go_ret
       exact ⟨by first | rfl | (simp; done) | (simp [*]; done), by repeat (first | exact Drawn0.refl _ | apply Drawn0.step)⟩
      ·
       rw [if_neg c14] at H
       have c14b0 : decide (0 < t196) = false := decide_eq_false c14
       clear c14
       by_cases c15 : t197 > 0
       ·
        rw [if_pos c15] at H
        have c15b0 : decide (0 < t197) = true := decide_eq_true c15
        clear c15
        obtain rfl := Option.some.inj H
        go_enter Try.func8, Try.ntmps8
        go_wp2_with (first | ((with_reducible refine gate_callee (f := 12) rfl ?_); refine goesL_ (some 10) rfl rfl Try.func12 (by kernel_rfl) rfl #[] rfl (by (try simp only [List.map_toArray, List.map_cons, List.map_nil]); first | done | rfl | (simp only [List.length_drop, List.length_take]; rfl)) ?_; (with_reducible refine (colloquylaw13_awake.calls  true _ A4.out).mono ?_); rintro e w' ⟨rfl, ⟨nd, rfl⟩⟩; refine ⟨_, rfl, ?_⟩) | ((with_reducible refine gate_callee (f := 18) rfl ?_); refine goesL_ (some 13) rfl rfl Try.func18 (by kernel_rfl) rfl #[.int .u64 a0, .int .u64 a1] rfl (by (try simp only [List.map_toArray, List.map_cons, List.map_nil]); first | done | rfl | (simp only [List.length_drop, List.length_take]; rfl)) ?_; (with_reducible refine (score_Cmp.calls a0 a1 t196 _ A5.out).mono ?_); rintro e w' ⟨rfl, ⟨nd, rfl⟩⟩; refine ⟨_, rfl, ?_⟩) | ((with_reducible refine gate_callee (f := 18) rfl ?_); refine goesL_ (some 16) rfl rfl Try.func18 (by kernel_rfl) rfl #[.int .u64 a1, .int .u64 a2] rfl (by (try simp only [List.map_toArray, List.map_cons, List.map_nil]); first | done | rfl | (simp only [List.length_drop, List.length_take]; rfl)) ?_; (with_reducible refine (score_Cmp.calls a1 a2 t197 _ A6.out).mono ?_); rintro e w' ⟨rfl, ⟨nd, rfl⟩⟩; refine ⟨_, rfl, ?_⟩) | ((with_reducible refine gate_callee (f := 18) rfl ?_); refine goesL_ (some 20) rfl rfl Try.func18 (by kernel_rfl) rfl #[.int .u64 a1, .int .u64 a0] rfl (by (try simp only [List.map_toArray, List.map_cons, List.map_nil]); first | done | rfl | (simp only [List.length_drop, List.length_take]; rfl)) ?_; (with_reducible refine (score_Cmp.calls a1 a0 t198 _ A7.out).mono ?_); rintro e w' ⟨rfl, ⟨nd, rfl⟩⟩; refine ⟨_, rfl, ?_⟩) | (go_at_call 18; (with_reducible refine (score_Cmp.calls a0 a0 t199 _ A11.out).mono ?_); rintro e w' ⟨rfl, ⟨nd, rfl⟩⟩))
        go_ret
        exact ⟨by first | rfl | (simp; done) | (simp [*]; done), by repeat (first | exact Drawn0.refl _ | apply Drawn0.step)⟩
       ·
        rw [if_neg c15] at H
        have c15b0 : decide (0 < t197) = false := decide_eq_false c15
        clear c15
        replace H := Option.bind_eq_some_iff.mp H
        obtain ⟨t200, A160, H⟩ := H
        replace H : (some (decide (t200 ≤ 0))) = some r := H
        have A16 := Aside0.mk A160
        clear A160
        obtain rfl := Option.some.inj H
        go_enter Try.func8, Try.ntmps8
        go_wp2_with (first | ((with_reducible refine gate_callee (f := 12) rfl ?_); refine goesL_ (some 10) rfl rfl Try.func12 (by kernel_rfl) rfl #[] rfl (by (try simp only [List.map_toArray, List.map_cons, List.map_nil]); first | done | rfl | (simp only [List.length_drop, List.length_take]; rfl)) ?_; (with_reducible refine (colloquylaw13_awake.calls  true _ A4.out).mono ?_); rintro e w' ⟨rfl, ⟨nd, rfl⟩⟩; refine ⟨_, rfl, ?_⟩) | ((with_reducible refine gate_callee (f := 18) rfl ?_); refine goesL_ (some 13) rfl rfl Try.func18 (by kernel_rfl) rfl #[.int .u64 a0, .int .u64 a1] rfl (by (try simp only [List.map_toArray, List.map_cons, List.map_nil]); first | done | rfl | (simp only [List.length_drop, List.length_take]; rfl)) ?_; (with_reducible refine (score_Cmp.calls a0 a1 t196 _ A5.out).mono ?_); rintro e w' ⟨rfl, ⟨nd, rfl⟩⟩; refine ⟨_, rfl, ?_⟩) | ((with_reducible refine gate_callee (f := 18) rfl ?_); refine goesL_ (some 16) rfl rfl Try.func18 (by kernel_rfl) rfl #[.int .u64 a1, .int .u64 a2] rfl (by (try simp only [List.map_toArray, List.map_cons, List.map_nil]); first | done | rfl | (simp only [List.length_drop, List.length_take]; rfl)) ?_; (with_reducible refine (score_Cmp.calls a1 a2 t197 _ A6.out).mono ?_); rintro e w' ⟨rfl, ⟨nd, rfl⟩⟩; refine ⟨_, rfl, ?_⟩) | ((with_reducible refine gate_callee (f := 18) rfl ?_); refine goesL_ (some 20) rfl rfl Try.func18 (by kernel_rfl) rfl #[.int .u64 a1, .int .u64 a0] rfl (by (try simp only [List.map_toArray, List.map_cons, List.map_nil]); first | done | rfl | (simp only [List.length_drop, List.length_take]; rfl)) ?_; (with_reducible refine (score_Cmp.calls a1 a0 t198 _ A7.out).mono ?_); rintro e w' ⟨rfl, ⟨nd, rfl⟩⟩; refine ⟨_, rfl, ?_⟩) | (go_at_call 18; (with_reducible refine (score_Cmp.calls a0 a0 t199 _ A11.out).mono ?_); rintro e w' ⟨rfl, ⟨nd, rfl⟩⟩) | (go_at_call 18; (with_reducible refine (score_Cmp.calls a0 a2 t200 _ A16.out).mono ?_); rintro e w' ⟨rfl, ⟨nd, rfl⟩⟩))
        go_ret
        exact ⟨by first | rfl | (simp; done) | (simp [*]; done), by repeat (first | exact Drawn0.refl _ | apply Drawn0.step)⟩
     ·
      replace c13 := Bool.eq_false_iff.mpr c13
      subst c13
      have H1 : (some false) = some r := by rw [if_neg (show ¬ (false = true) by decide)] at H; exact H
      clear H
      have H := H1
      clear H1
      exact absurd (Option.some.inj H) (by rw [HRT.out]; decide)
    ·
     rw [if_neg c12] at H
     have c12b0 : (t199 == 0) = false := beq_eq_false_iff_ne.mpr c12
     have c12b1 : (t199 != 0) = true := bne_iff_ne.mpr c12
     exact absurd (Option.some.inj H) (by rw [HRT.out]; decide)
 ·
  rw [if_neg c8] at H
  have c8b0 : (t196 == (wrap64 (-t198))) = false := beq_eq_false_iff_ne.mpr c8
  have c8b1 : (t196 != (wrap64 (-t198))) = true := bne_iff_ne.mpr c8
  exact absurd (Option.some.inj H) (by rw [HRT.out]; decide)

/-- THE ONE PURE STATEMENT of colloquylaw13_ScoreTotal: yours. -/
def colloquylaw13_ScoreTotal.Pure : Prop := ∀ (a0 : Int) (a1 : Int) (a2 : Int), (Lit.int .u64 a0).wf = true → (Lit.int .u64 a1).wf = true → (Lit.int .u64 a2).wf = true → colloquylaw13_ScoreTotal.f a0 a1 a2 = some true
theorem colloquylaw13_ScoreTotal.walk (P : colloquylaw13_ScoreTotal.Pure) (a0 : Int) (a1 : Int) (a2 : Int) (w : World) (w0 : (Lit.int .u64 a0).wf = true) (w1 : (Lit.int .u64 a1).wf = true) (w2 : (Lit.int .u64 a2).wf = true) :
  Calls Try.prog 8 #[.int .u64 a0, .int .u64 a1, .int .u64 a2] w fun e w' => e = .returned (.bool true) ∧ Below w.heap.size w w' := by
 have h := P a0 a1 a2 w0 w1 w2
 refine (colloquylaw13_ScoreTotal.calls a0 a1 a2 true w rfl h).mono ?_
 rintro e w' ⟨rfl, hd⟩
 exact ⟨rfl, hd.below⟩

end Go.Proofs.Ytlobedghenflfaa.P
