/- Plain Lean functions and their contracts over the translation, written by a program of this session (myprint.py, over the kit's print); no condition but each contract's own. -/
import Derived.Test.YtlobedghenflfaaPx0
namespace Go.Proofs.Ytlobedghenflfaa.P
open Go.RowKit Go.Proofs.YtlobedghenflfaaW.PrintWords Go.Proofs.YtlobedghenflfaaW.PrintLast Go.Proofs.YtlobedghenflfaaW.PrintMore
attribute [local go_sem] max2_int min2_int max_two min_two max_three min_three max_four min_four   -- for this text's walks alone
set_option linter.unusedVariables false
set_option linter.unusedSimpArgs false

-- NOT PRINTED: function 24 (math_Float64frombits)

-- NOT PRINTED: function 38 (math_Float64bits)

-- NOT PRINTED: function 25 (math_Abs)

-- NOT PRINTED: function 39 (math_archFloor)

-- NOT PRINTED: function 30 (math_IsNaN)

-- NOT PRINTED: function 44 (math_IsInf)

-- NOT PRINTED: function 51 (math_archTrunc)

-- NOT PRINTED: function 49 (math_Copysign)

-- NOT PRINTED: function 52 (math_trunc)

-- NOT PRINTED: function 48 (math_Trunc)

-- NOT PRINTED: function 45 (math_Modf)

-- NOT PRINTED: function 40 (math_floor)

-- NOT PRINTED: function 26 (math_Floor)

/-! ### score_Floor: function 13, by hand -/
-- making: no
def score_Floor.f (x : Int) : Option (Int × Bool) := if 0 ≤ x ∧ x < 2 ^ 64 then some (Fl.floorI x.toNat) else none
theorem score_Floor.calls (a0 : Int) (r1 : Int) (r2 : Bool) (w : World) (h : score_Floor.f a0 = some (r1, r2)) :
    Calls Try.prog 13 #[.int .u64 a0] w fun e w' => e = .returned (.tuple #[.int .i64 r1, .bool r2]) ∧ Drawn0 w w' := by
  unfold score_Floor.f at h
  by_cases hx : 0 ≤ a0 ∧ a0 < 2 ^ 64
  · rw [if_pos hx] at h
    have e := Option.some.inj h
    refine (floor_calls a0 hx.1 hx.2 w).mono ?_
    rintro e' w1 ⟨rfl, q, rfl⟩
    exact ⟨by rw [e], q, rfl⟩
  · rw [if_neg hx] at h; cases h

-- NOT PRINTED: function 34 (score_answer)

-- NOT PRINTED: function 35 (score_whole)

/-! ### score_Quotient: function 20, by hand -/
-- making: no
def score_Quotient.f (a b : Int) : Option Int := some ((Fl.quotW a b : Nat) : Int)
theorem score_Quotient.calls (a0 : Int) (a1 : Int) (r : Int) (w : World) (h : score_Quotient.f a0 a1 = some r) :
    Calls Try.prog 20 #[.int .i64 a0, .int .i64 a1] w fun e w' => e = .returned (.int .u64 r) ∧ Drawn0 w w' := by
  obtain rfl := Option.some.inj h
  refine (quotient_calls a0 a1 w).mono ?_
  rintro e w1 ⟨rfl, q, rfl⟩
  exact ⟨rfl, q, rfl⟩

/-! ### colloquylaw13_awake: function 12 -/
def colloquylaw13_awake.f  : Option (Bool) := (score_Quotient.f (-7) 2).bind fun t101 => ((score_Floor.f t101).bind fun bt102 => ((score_Quotient.f 1 3).bind fun t104 => (if t104 = 4599676419421066581 then ((score_Quotient.f 0 (-5)).bind fun t105 => (if t105 = 9223372036854775808 then ((score_Quotient.f (-1) 0).bind fun t106 => (if t106 = 18442240474082181120 then (if bt102.1 = (-4) then (some bt102.2) else (some false)) else (some false))) else (some false))) else (some false))))
set_option maxHeartbeats 8000000 in
set_option maxRecDepth 100000 in
theorem colloquylaw13_awake.calls  (r : Bool) (w : World) (h : colloquylaw13_awake.f  = some r) :
  Calls Try.prog 12 #[] w fun e w' => e = .returned (.bool r) ∧ Drawn0 w w' := by
 have H : ((score_Quotient.f (-7) 2).bind fun t101 => ((score_Floor.f t101).bind fun bt102 => ((score_Quotient.f 1 3).bind fun t104 => (if t104 = 4599676419421066581 then ((score_Quotient.f 0 (-5)).bind fun t105 => (if t105 = 9223372036854775808 then ((score_Quotient.f (-1) 0).bind fun t106 => (if t106 = 18442240474082181120 then (if bt102.1 = (-4) then (some bt102.2) else (some false)) else (some false))) else (some false))) else (some false))))) = some r := h
 clear h
 replace H := Option.bind_eq_some_iff.mp H
 obtain ⟨t101, A10, H⟩ := H
 replace H : ((score_Floor.f t101).bind fun bt102 => ((score_Quotient.f 1 3).bind fun t104 => (if t104 = 4599676419421066581 then ((score_Quotient.f 0 (-5)).bind fun t105 => (if t105 = 9223372036854775808 then ((score_Quotient.f (-1) 0).bind fun t106 => (if t106 = 18442240474082181120 then (if bt102.1 = (-4) then (some bt102.2) else (some false)) else (some false))) else (some false))) else (some false)))) = some r := H
 have A1 := Aside0.mk A10
 clear A10
 replace H := Option.bind_eq_some_iff.mp H
 obtain ⟨⟨t102, t103⟩, A20, H⟩ := H
 replace H : ((score_Quotient.f 1 3).bind fun t104 => (if t104 = 4599676419421066581 then ((score_Quotient.f 0 (-5)).bind fun t105 => (if t105 = 9223372036854775808 then ((score_Quotient.f (-1) 0).bind fun t106 => (if t106 = 18442240474082181120 then (if t102 = (-4) then (some t103) else (some false)) else (some false))) else (some false))) else (some false))) = some r := H
 have A2 := Aside0.mk A20
 clear A20
 replace H := Option.bind_eq_some_iff.mp H
 obtain ⟨t104, A30, H⟩ := H
 replace H : (if t104 = 4599676419421066581 then ((score_Quotient.f 0 (-5)).bind fun t105 => (if t105 = 9223372036854775808 then ((score_Quotient.f (-1) 0).bind fun t106 => (if t106 = 18442240474082181120 then (if t102 = (-4) then (some t103) else (some false)) else (some false))) else (some false))) else (some false)) = some r := H
 have A3 := Aside0.mk A30
 clear A30
 by_cases c4 : t104 = 4599676419421066581
 ·
  rw [if_pos c4] at H
  have c4b0 : (t104 == 4599676419421066581) = true := beq_iff_eq.mpr c4
  have c4b1 : (t104 != 4599676419421066581) = false := bne_eq_false_iff_eq.mpr c4
  clear c4
  replace H := Option.bind_eq_some_iff.mp H
  obtain ⟨t105, A50, H⟩ := H
  replace H : (if t105 = 9223372036854775808 then ((score_Quotient.f (-1) 0).bind fun t106 => (if t106 = 18442240474082181120 then (if t102 = (-4) then (some t103) else (some false)) else (some false))) else (some false)) = some r := H
  have A5 := Aside0.mk A50
  clear A50
  by_cases c6 : t105 = 9223372036854775808
  ·
   rw [if_pos c6] at H
   have c6b0 : (t105 == 9223372036854775808) = true := beq_iff_eq.mpr c6
   have c6b1 : (t105 != 9223372036854775808) = false := bne_eq_false_iff_eq.mpr c6
   clear c6
   replace H := Option.bind_eq_some_iff.mp H
   obtain ⟨t106, A70, H⟩ := H
   replace H : (if t106 = 18442240474082181120 then (if t102 = (-4) then (some t103) else (some false)) else (some false)) = some r := H
   have A7 := Aside0.mk A70
   clear A70
   by_cases c8 : t106 = 18442240474082181120
   ·
    rw [if_pos c8] at H
    have c8b0 : (t106 == 18442240474082181120) = true := beq_iff_eq.mpr c8
    have c8b1 : (t106 != 18442240474082181120) = false := bne_eq_false_iff_eq.mpr c8
    clear c8
    by_cases c9 : t102 = (-4)
    ·
     rw [if_pos c9] at H
     have c9b0 : (t102 == (-4)) = true := beq_iff_eq.mpr c9
     have c9b1 : (t102 != (-4)) = false := bne_eq_false_iff_eq.mpr c9
     clear c9
     obtain rfl := Option.some.inj H
     go_enter Try.func12, Try.ntmps12
     go_wp2_with (first | ((with_reducible refine gate_callee (f := 20) rfl ?_); refine goesL_ (some 4) rfl rfl Try.func20 (by kernel_rfl) rfl #[.int .i64 (-7), .int .i64 2] rfl (by (try simp only [List.map_toArray, List.map_cons, List.map_nil]); first | done | rfl | (simp only [List.length_drop, List.length_take]; rfl)) ?_; (with_reducible refine (score_Quotient.calls (-7) 2 t101 _ A1.out).mono ?_); rintro e w' ⟨rfl, ⟨nd, rfl⟩⟩; refine ⟨_, rfl, ?_⟩) | ((with_reducible refine gate_callee (f := 13) rfl ?_); refine goesL_ (some 5) rfl rfl Try.func13 (by kernel_rfl) rfl #[.int .u64 t101] rfl (by (try simp only [List.map_toArray, List.map_cons, List.map_nil]); first | done | rfl | (simp only [List.length_drop, List.length_take]; rfl)) ?_; (with_reducible refine (score_Floor.calls t101 t102 t103 _ A2.out).mono ?_); rintro e w' ⟨rfl, ⟨nd, rfl⟩⟩; refine ⟨_, rfl, ?_⟩) | ((with_reducible refine gate_callee (f := 20) rfl ?_); refine goesL_ (some 8) rfl rfl Try.func20 (by kernel_rfl) rfl #[.int .i64 1, .int .i64 3] rfl (by (try simp only [List.map_toArray, List.map_cons, List.map_nil]); first | done | rfl | (simp only [List.length_drop, List.length_take]; rfl)) ?_; (with_reducible refine (score_Quotient.calls 1 3 t104 _ A3.out).mono ?_); rintro e w' ⟨rfl, ⟨nd, rfl⟩⟩; refine ⟨_, rfl, ?_⟩) | (go_at_call 20; (with_reducible refine (score_Quotient.calls 0 (-5) t105 _ A5.out).mono ?_); rintro e w' ⟨rfl, ⟨nd, rfl⟩⟩) | (go_at_call 20; (with_reducible refine (score_Quotient.calls (-1) 0 t106 _ A7.out).mono ?_); rintro e w' ⟨rfl, ⟨nd, rfl⟩⟩))
     go_ret
     exact ⟨by first | rfl | (simp; done) | (simp [*]; done), by repeat (first | exact Drawn0.refl _ | apply Drawn0.step)⟩
    ·
     rw [if_neg c9] at H
     have c9b0 : (t102 == (-4)) = false := beq_eq_false_iff_ne.mpr c9
     have c9b1 : (t102 != (-4)) = true := bne_iff_ne.mpr c9
     obtain rfl := Option.some.inj H
     go_enter Try.func12, Try.ntmps12
     go_wp2_with (first | ((with_reducible refine gate_callee (f := 20) rfl ?_); refine goesL_ (some 4) rfl rfl Try.func20 (by kernel_rfl) rfl #[.int .i64 (-7), .int .i64 2] rfl (by (try simp only [List.map_toArray, List.map_cons, List.map_nil]); first | done | rfl | (simp only [List.length_drop, List.length_take]; rfl)) ?_; (with_reducible refine (score_Quotient.calls (-7) 2 t101 _ A1.out).mono ?_); rintro e w' ⟨rfl, ⟨nd, rfl⟩⟩; refine ⟨_, rfl, ?_⟩) | ((with_reducible refine gate_callee (f := 13) rfl ?_); refine goesL_ (some 5) rfl rfl Try.func13 (by kernel_rfl) rfl #[.int .u64 t101] rfl (by (try simp only [List.map_toArray, List.map_cons, List.map_nil]); first | done | rfl | (simp only [List.length_drop, List.length_take]; rfl)) ?_; (with_reducible refine (score_Floor.calls t101 t102 t103 _ A2.out).mono ?_); rintro e w' ⟨rfl, ⟨nd, rfl⟩⟩; refine ⟨_, rfl, ?_⟩) | ((with_reducible refine gate_callee (f := 20) rfl ?_); refine goesL_ (some 8) rfl rfl Try.func20 (by kernel_rfl) rfl #[.int .i64 1, .int .i64 3] rfl (by (try simp only [List.map_toArray, List.map_cons, List.map_nil]); first | done | rfl | (simp only [List.length_drop, List.length_take]; rfl)) ?_; (with_reducible refine (score_Quotient.calls 1 3 t104 _ A3.out).mono ?_); rintro e w' ⟨rfl, ⟨nd, rfl⟩⟩; refine ⟨_, rfl, ?_⟩) | (go_at_call 20; (with_reducible refine (score_Quotient.calls 0 (-5) t105 _ A5.out).mono ?_); rintro e w' ⟨rfl, ⟨nd, rfl⟩⟩) | (go_at_call 20; (with_reducible refine (score_Quotient.calls (-1) 0 t106 _ A7.out).mono ?_); rintro e w' ⟨rfl, ⟨nd, rfl⟩⟩))
     go_ret
     exact ⟨by first | rfl | (simp; done) | (simp [*]; done), by repeat (first | exact Drawn0.refl _ | apply Drawn0.step)⟩
   ·
    rw [if_neg c8] at H
    have c8b0 : (t106 == 18442240474082181120) = false := beq_eq_false_iff_ne.mpr c8
    have c8b1 : (t106 != 18442240474082181120) = true := bne_iff_ne.mpr c8
    obtain rfl := Option.some.inj H
    go_enter Try.func12, Try.ntmps12
    go_wp2_with (first | ((with_reducible refine gate_callee (f := 20) rfl ?_); refine goesL_ (some 4) rfl rfl Try.func20 (by kernel_rfl) rfl #[.int .i64 (-7), .int .i64 2] rfl (by (try simp only [List.map_toArray, List.map_cons, List.map_nil]); first | done | rfl | (simp only [List.length_drop, List.length_take]; rfl)) ?_; (with_reducible refine (score_Quotient.calls (-7) 2 t101 _ A1.out).mono ?_); rintro e w' ⟨rfl, ⟨nd, rfl⟩⟩; refine ⟨_, rfl, ?_⟩) | ((with_reducible refine gate_callee (f := 13) rfl ?_); refine goesL_ (some 5) rfl rfl Try.func13 (by kernel_rfl) rfl #[.int .u64 t101] rfl (by (try simp only [List.map_toArray, List.map_cons, List.map_nil]); first | done | rfl | (simp only [List.length_drop, List.length_take]; rfl)) ?_; (with_reducible refine (score_Floor.calls t101 t102 t103 _ A2.out).mono ?_); rintro e w' ⟨rfl, ⟨nd, rfl⟩⟩; refine ⟨_, rfl, ?_⟩) | ((with_reducible refine gate_callee (f := 20) rfl ?_); refine goesL_ (some 8) rfl rfl Try.func20 (by kernel_rfl) rfl #[.int .i64 1, .int .i64 3] rfl (by (try simp only [List.map_toArray, List.map_cons, List.map_nil]); first | done | rfl | (simp only [List.length_drop, List.length_take]; rfl)) ?_; (with_reducible refine (score_Quotient.calls 1 3 t104 _ A3.out).mono ?_); rintro e w' ⟨rfl, ⟨nd, rfl⟩⟩; refine ⟨_, rfl, ?_⟩) | (go_at_call 20; (with_reducible refine (score_Quotient.calls 0 (-5) t105 _ A5.out).mono ?_); rintro e w' ⟨rfl, ⟨nd, rfl⟩⟩) | (go_at_call 20; (with_reducible refine (score_Quotient.calls (-1) 0 t106 _ A7.out).mono ?_); rintro e w' ⟨rfl, ⟨nd, rfl⟩⟩))
    go_ret
    exact ⟨by first | rfl | (simp; done) | (simp [*]; done), by repeat (first | exact Drawn0.refl _ | apply Drawn0.step)⟩
  ·
   rw [if_neg c6] at H
   have c6b0 : (t105 == 9223372036854775808) = false := beq_eq_false_iff_ne.mpr c6
   have c6b1 : (t105 != 9223372036854775808) = true := bne_iff_ne.mpr c6
   obtain rfl := Option.some.inj H
   go_enter Try.func12, Try.ntmps12
   go_wp2_with (first | ((with_reducible refine gate_callee (f := 20) rfl ?_); refine goesL_ (some 4) rfl rfl Try.func20 (by kernel_rfl) rfl #[.int .i64 (-7), .int .i64 2] rfl (by (try simp only [List.map_toArray, List.map_cons, List.map_nil]); first | done | rfl | (simp only [List.length_drop, List.length_take]; rfl)) ?_; (with_reducible refine (score_Quotient.calls (-7) 2 t101 _ A1.out).mono ?_); rintro e w' ⟨rfl, ⟨nd, rfl⟩⟩; refine ⟨_, rfl, ?_⟩) | ((with_reducible refine gate_callee (f := 13) rfl ?_); refine goesL_ (some 5) rfl rfl Try.func13 (by kernel_rfl) rfl #[.int .u64 t101] rfl (by (try simp only [List.map_toArray, List.map_cons, List.map_nil]); first | done | rfl | (simp only [List.length_drop, List.length_take]; rfl)) ?_; (with_reducible refine (score_Floor.calls t101 t102 t103 _ A2.out).mono ?_); rintro e w' ⟨rfl, ⟨nd, rfl⟩⟩; refine ⟨_, rfl, ?_⟩) | ((with_reducible refine gate_callee (f := 20) rfl ?_); refine goesL_ (some 8) rfl rfl Try.func20 (by kernel_rfl) rfl #[.int .i64 1, .int .i64 3] rfl (by (try simp only [List.map_toArray, List.map_cons, List.map_nil]); first | done | rfl | (simp only [List.length_drop, List.length_take]; rfl)) ?_; (with_reducible refine (score_Quotient.calls 1 3 t104 _ A3.out).mono ?_); rintro e w' ⟨rfl, ⟨nd, rfl⟩⟩; refine ⟨_, rfl, ?_⟩) | (go_at_call 20; (with_reducible refine (score_Quotient.calls 0 (-5) t105 _ A5.out).mono ?_); rintro e w' ⟨rfl, ⟨nd, rfl⟩⟩))
   go_ret
   exact ⟨by first | rfl | (simp; done) | (simp [*]; done), by repeat (first | exact Drawn0.refl _ | apply Drawn0.step)⟩
 ·
  rw [if_neg c4] at H
  have c4b0 : (t104 == 4599676419421066581) = false := beq_eq_false_iff_ne.mpr c4
  have c4b1 : (t104 != 4599676419421066581) = true := bne_iff_ne.mpr c4
  obtain rfl := Option.some.inj H
  go_enter Try.func12, Try.ntmps12
  go_wp2_with (first | ((with_reducible refine gate_callee (f := 20) rfl ?_); refine goesL_ (some 4) rfl rfl Try.func20 (by kernel_rfl) rfl #[.int .i64 (-7), .int .i64 2] rfl (by (try simp only [List.map_toArray, List.map_cons, List.map_nil]); first | done | rfl | (simp only [List.length_drop, List.length_take]; rfl)) ?_; (with_reducible refine (score_Quotient.calls (-7) 2 t101 _ A1.out).mono ?_); rintro e w' ⟨rfl, ⟨nd, rfl⟩⟩; refine ⟨_, rfl, ?_⟩) | ((with_reducible refine gate_callee (f := 13) rfl ?_); refine goesL_ (some 5) rfl rfl Try.func13 (by kernel_rfl) rfl #[.int .u64 t101] rfl (by (try simp only [List.map_toArray, List.map_cons, List.map_nil]); first | done | rfl | (simp only [List.length_drop, List.length_take]; rfl)) ?_; (with_reducible refine (score_Floor.calls t101 t102 t103 _ A2.out).mono ?_); rintro e w' ⟨rfl, ⟨nd, rfl⟩⟩; refine ⟨_, rfl, ?_⟩) | ((with_reducible refine gate_callee (f := 20) rfl ?_); refine goesL_ (some 8) rfl rfl Try.func20 (by kernel_rfl) rfl #[.int .i64 1, .int .i64 3] rfl (by (try simp only [List.map_toArray, List.map_cons, List.map_nil]); first | done | rfl | (simp only [List.length_drop, List.length_take]; rfl)) ?_; (with_reducible refine (score_Quotient.calls 1 3 t104 _ A3.out).mono ?_); rintro e w' ⟨rfl, ⟨nd, rfl⟩⟩; refine ⟨_, rfl, ?_⟩))
  go_ret
  exact ⟨by first | rfl | (simp; done) | (simp [*]; done), by repeat (first | exact Drawn0.refl _ | apply Drawn0.step)⟩

/-! ### colloquyref13_Floor: function 14 -/
mutual
def colloquyref13_Floor.l0 : Nat → Int → Int → Int → Option (Int × Bool)
 | 0, _, _, _ => none
 | k + 1, x0, x5, x6 => if x5 > 52 then (colloquyref13_Floor.l0 k x0 (wrap64 (x5 - 1)) (wrap64 (2 * x6))) else (colloquyref13_Floor.l1 k x0 x5 x6 false)
def colloquyref13_Floor.l1 : Nat → Int → Int → Int → Bool → Option (Int × Bool)
 | 0, _, _, _, _ => none
 | k + 1, x0, x5, x6, x7 => if x5 < 52 then (if x7 = true then (colloquyref13_Floor.l1 k x0 (wrap64 (x5 + 1)) (wrap64 (Int.tdiv x6 2)) true) else (colloquyref13_Floor.l1 k x0 (wrap64 (x5 + 1)) (wrap64 (Int.tdiv x6 2)) ((Int.tmod x6 2) == 1))) else (if x0 < 9223372036854775808 then (some (x6, true)) else (if x7 = true then (some (wrap64 ((wrap64 (-x6)) - 1), true)) else (some (wrap64 (-x6), true))))
end
def colloquyref13_Floor.f (k : Nat) (a0 : Int) : Option (Int × Bool) := if (Go.bits .andNot .u64 a0 9223372036854775808) ≥ 4886405595696988160 then (some (0, false)) else (if (wrap64 ((wrap64 ((Go.bits .andNot .u64 a0 9223372036854775808) / 4503599627370496)) - 1023)) < 0 then (if a0 ≥ 9223372036854775808 then (if (Go.bits .andNot .u64 a0 9223372036854775808) > 0 then (some ((-1), true)) else (some (0, true))) else (some (0, true))) else (colloquyref13_Floor.l0 k a0 (wrap64 ((wrap64 ((Go.bits .andNot .u64 a0 9223372036854775808) / 4503599627370496)) - 1023)) (wrap64 ((wrap64 (Go.bits .and .u64 (Go.bits .andNot .u64 a0 9223372036854775808) 4503599627370495)) + 4503599627370496))))
theorem colloquyref13_Floor.mono_l : ∀ k, (∀ y0 y1 y2, LeO (colloquyref13_Floor.l0 k y0 y1 y2) (colloquyref13_Floor.l0 (k + 1) y0 y1 y2)) ∧ (∀ y0 y1 y2 y3, LeO (colloquyref13_Floor.l1 k y0 y1 y2 y3) (colloquyref13_Floor.l1 (k + 1) y0 y1 y2 y3))
 | 0 => ⟨fun _ _ _ r h => by simp [colloquyref13_Floor.l0] at h, fun _ _ _ _ r h => by simp [colloquyref13_Floor.l1] at h⟩
 | k + 1 => by
  obtain ⟨ih0, ih1⟩ := colloquyref13_Floor.mono_l k
  refine ⟨?_, ?_⟩
  ·
   intro y0 y1 y2
   unfold colloquyref13_Floor.l0
   repeat' first
   | (with_reducible exact ih0 _ _ _)
   | (with_reducible exact ih1 _ _ _ _)
   | (with_reducible exact LeO.refl _)
   | (with_reducible exact LeO.none _)
   | (with_reducible refine LeO.ite ?_ ?_)
   | (with_reducible refine LeO.bind ?_ (fun _ => ?_))
   | exact ih0 _ _ _
   | exact ih1 _ _ _ _
   | exact LeO.none _
   | refine LeO.ite ?_ ?_
   | refine LeO.bind ?_ (fun _ => ?_)
  ·
   intro y0 y1 y2 y3
   unfold colloquyref13_Floor.l1
   repeat' first
   | (with_reducible exact ih0 _ _ _)
   | (with_reducible exact ih1 _ _ _ _)
   | (with_reducible exact LeO.refl _)
   | (with_reducible exact LeO.none _)
   | (with_reducible refine LeO.ite ?_ ?_)
   | (with_reducible refine LeO.bind ?_ (fun _ => ?_))
   | exact ih0 _ _ _
   | exact ih1 _ _ _ _
   | exact LeO.none _
   | refine LeO.ite ?_ ?_
   | refine LeO.bind ?_ (fun _ => ?_)
theorem colloquyref13_Floor.mono : ∀ a0 k, LeO (colloquyref13_Floor.f k a0) (colloquyref13_Floor.f (k + 1) a0) := by
 intro a0 k
 obtain ⟨ih0, ih1⟩ := colloquyref13_Floor.mono_l k
 unfold colloquyref13_Floor.f
 repeat' first
   | (with_reducible exact ih0 _ _ _)
   | (with_reducible exact ih1 _ _ _ _)
   | (with_reducible exact LeO.refl _)
   | (with_reducible exact LeO.none _)
   | (with_reducible refine LeO.ite ?_ ?_)
   | (with_reducible refine LeO.bind ?_ (fun _ => ?_))
   | exact ih0 _ _ _
   | exact ih1 _ _ _ _
   | exact LeO.none _
   | refine LeO.ite ?_ ?_
   | refine LeO.bind ?_ (fun _ => ?_)
set_option maxHeartbeats 8000000 in
set_option maxRecDepth 100000 in
theorem colloquyref13_Floor.calls (k : Nat) (a0 : Int) (r1 : Int) (r2 : Bool) (w : World) (h : colloquyref13_Floor.f k a0 = some (r1, r2)) :
  Calls Try.prog 14 #[.int .u64 a0] w fun e w' => e = .returned (.tuple #[.int .i64 r1, .bool r2]) ∧ Drawn0 w w' := by
 have H : (if (Go.bits .andNot .u64 a0 9223372036854775808) ≥ 4886405595696988160 then (some (0, false)) else (if (wrap64 ((wrap64 ((Go.bits .andNot .u64 a0 9223372036854775808) / 4503599627370496)) - 1023)) < 0 then (if a0 ≥ 9223372036854775808 then (if (Go.bits .andNot .u64 a0 9223372036854775808) > 0 then (some ((-1), true)) else (some (0, true))) else (some (0, true))) else (colloquyref13_Floor.l0 k a0 (wrap64 ((wrap64 ((Go.bits .andNot .u64 a0 9223372036854775808) / 4503599627370496)) - 1023)) (wrap64 ((wrap64 (Go.bits .and .u64 (Go.bits .andNot .u64 a0 9223372036854775808) 4503599627370495)) + 4503599627370496))))) = some (r1, r2) := h
 clear h
 by_cases c2 : (Go.bits .andNot .u64 a0 9223372036854775808) ≥ 4886405595696988160
 ·
  rw [if_pos c2] at H
  have c2b0 : decide (4886405595696988160 ≤ (Go.bits .andNot .u64 a0 9223372036854775808)) = true := decide_eq_true c2
  clear c2
  simp only [Option.some.injEq, Prod.mk.injEq] at H
  obtain ⟨rfl, rfl⟩ := H
  go_enter Try.func14, Try.ntmps14
  go_wp2
  go_ret2
  exact ⟨by first | rfl | (simp; done) | (simp [*]; done), by repeat (first | exact Drawn0.refl _ | apply Drawn0.step)⟩
 ·
  rw [if_neg c2] at H
  have c2b0 : decide (4886405595696988160 ≤ (Go.bits .andNot .u64 a0 9223372036854775808)) = false := decide_eq_false c2
  clear c2
  by_cases c3 : (wrap64 ((wrap64 ((Go.bits .andNot .u64 a0 9223372036854775808) / 4503599627370496)) - 1023)) < 0
  ·
   rw [if_pos c3] at H
   have c3b0 : decide ((wrap64 ((wrap64 ((Go.bits .andNot .u64 a0 9223372036854775808) / 4503599627370496)) - 1023)) < 0) = true := decide_eq_true c3
   clear c3
   by_cases c4 : a0 ≥ 9223372036854775808
   ·
    rw [if_pos c4] at H
    have c4b0 : decide (9223372036854775808 ≤ a0) = true := decide_eq_true c4
    clear c4
    by_cases c5 : (Go.bits .andNot .u64 a0 9223372036854775808) > 0
    ·
     rw [if_pos c5] at H
     have c5b0 : decide (0 < (Go.bits .andNot .u64 a0 9223372036854775808)) = true := decide_eq_true c5
     clear c5
     simp only [Option.some.injEq, Prod.mk.injEq] at H
     obtain ⟨rfl, rfl⟩ := H
     go_enter Try.func14, Try.ntmps14
     go_wp2
     go_ret2
     exact ⟨by first | rfl | (simp; done) | (simp [*]; done), by repeat (first | exact Drawn0.refl _ | apply Drawn0.step)⟩
    ·
     rw [if_neg c5] at H
     have c5b0 : decide (0 < (Go.bits .andNot .u64 a0 9223372036854775808)) = false := decide_eq_false c5
     clear c5
     simp only [Option.some.injEq, Prod.mk.injEq] at H
     obtain ⟨rfl, rfl⟩ := H
     go_enter Try.func14, Try.ntmps14
     go_wp2
     go_ret2
     exact ⟨by first | rfl | (simp; done) | (simp [*]; done), by repeat (first | exact Drawn0.refl _ | apply Drawn0.step)⟩
   ·
    rw [if_neg c4] at H
    have c4b0 : decide (9223372036854775808 ≤ a0) = false := decide_eq_false c4
    clear c4
    simp only [Option.some.injEq, Prod.mk.injEq] at H
    obtain ⟨rfl, rfl⟩ := H
    go_enter Try.func14, Try.ntmps14
    go_wp2
    go_ret2
    exact ⟨by first | rfl | (simp; done) | (simp [*]; done), by repeat (first | exact Drawn0.refl _ | apply Drawn0.step)⟩
  ·
   rw [if_neg c3] at H
   have c3b0 : decide ((wrap64 ((wrap64 ((Go.bits .andNot .u64 a0 9223372036854775808) / 4503599627370496)) - 1023)) < 0) = false := decide_eq_false c3
   clear c3
   have H' := Aside0.mk H
   clear H
   go_enter Try.func14, Try.ntmps14
   go_wp2
   go_loopg [5, 6] k (fun kq v5 v6 w' => ∃ (x5_1 : Int) (x6_1 : Int), v5 = .int .i64 x5_1 ∧ v6 = .int .i64 x6_1 ∧ Aside0 (colloquyref13_Floor.l0 kq a0 x5_1 x6_1 = some (r1, r2)) ∧ Aside0 (kq ≤ k) ∧ Drawn0 w w')
   case atStart => exact ⟨(wrap64 ((wrap64 ((Go.bits .andNot .u64 a0 9223372036854775808) / 4503599627370496)) - 1023)), (wrap64 ((wrap64 (Go.bits .and .u64 (Go.bits .andNot .u64 a0 9223372036854775808) 4503599627370495)) + 4503599627370496)), (by first | rfl | (simp; done) | (simp [*]; done)), (by first | rfl | (simp; done) | (simp [*]; done)), H', ⟨Nat.le_refl _⟩, by repeat (first | exact Drawn0.refl _ | apply Drawn0.step)⟩
   case round =>
    clear H'
    try clear c1
    try clear c2
    try clear c2b0
    try clear p2
    try clear c3
    try clear c3b0
    try clear c4
    try clear c4b0
    try clear c5
    try clear c5b0
    obtain ⟨x5_1, x6_1, rfl, rfl, HA, HK1, ⟨m1, rfl⟩⟩ := hrel
    cases gk with
    | zero => exact absurd HA.out (by simp [colloquyref13_Floor.l0])
    | succ k1 =>
     have H := HA.out
     clear HA
     simp only [colloquyref13_Floor.l0] at H
     by_cases c6 : x5_1 > 52
     ·
      rw [if_pos c6] at H
      have c6b0 : decide (52 < x5_1) = true := decide_eq_true c6
      clear c6
      have H' := Aside0.mk H
      clear H
      go_wp2
      go_roundg k1
      case measure => have := HK1.out; omega
      case rel => exact ⟨(wrap64 (x5_1 - 1)), (wrap64 (2 * x6_1)), (by first | rfl | (simp; done) | (simp [*]; done)), (by first | rfl | (simp; done) | (simp [*]; done)), H', ⟨by have := HK1.out; omega⟩, by repeat (first | exact Drawn0.refl _ | apply Drawn0.step)⟩
     ·
      rw [if_neg c6] at H
      have c6b0 : decide (52 < x5_1) = false := decide_eq_false c6
      clear c6
      have H' := Aside0.mk H
      clear H
      go_wp2
      go_loopg [5, 6, 7] k1 (fun kq v5 v6 v7 w' => ∃ (x5_2 : Int) (x6_2 : Int) (x7_2 : Bool), v5 = .int .i64 x5_2 ∧ v6 = .int .i64 x6_2 ∧ v7 = .bool x7_2 ∧ Aside0 (colloquyref13_Floor.l1 kq a0 x5_2 x6_2 x7_2 = some (r1, r2)) ∧ Aside0 (kq ≤ k1) ∧ Drawn0 w w')
      case atStart => exact ⟨(x5_1), (x6_1), (false), (by first | rfl | (simp; done) | (simp [*]; done)), (by first | rfl | (simp; done) | (simp [*]; done)), (by first | rfl | (simp; done) | (simp [*]; done)), H', ⟨Nat.le_refl _⟩, by repeat (first | exact Drawn0.refl _ | apply Drawn0.step)⟩
      case round =>
       clear H'
       try clear c1
       try clear c2
       try clear c2b0
       try clear p2
       try clear c3
       try clear c3b0
       try clear c4
       try clear c4b0
       try clear c5
       try clear c5b0
       try clear c6
       try clear c6b0
       try clear p6
       try clear p2
       obtain ⟨x5_2, x6_2, x7_2, rfl, rfl, rfl, HA, HK2, ⟨m2, rfl⟩⟩ := hrel
       cases gk with
       | zero => exact absurd HA.out (by simp [colloquyref13_Floor.l1])
       | succ k2 =>
        have H := HA.out
        clear HA
        simp only [colloquyref13_Floor.l1] at H
        by_cases c7 : x5_2 < 52
        ·
         rw [if_pos c7] at H
         have c7b0 : decide (x5_2 < 52) = true := decide_eq_true c7
         clear c7
         by_cases c8 : x7_2 = true
         ·
          subst c8
          have H1 : (colloquyref13_Floor.l1 k2 a0 (wrap64 (x5_2 + 1)) (wrap64 (Int.tdiv x6_2 2)) true) = some (r1, r2) := by rw [if_pos rfl] at H; exact H
          clear H
          have H := H1
          clear H1
          have H' := Aside0.mk H
          clear H
          go_wp2
          go_roundg k2
          case measure => have := HK1.out; have := HK2.out; omega
          case rel => exact ⟨(wrap64 (x5_2 + 1)), (wrap64 (Int.tdiv x6_2 2)), (true), (by first | rfl | (simp; done) | (simp [*]; done)), (by first | rfl | (simp; done) | (simp [*]; done)), (by first | rfl | (simp; done) | (simp [*]; done)), H', ⟨by have := HK1.out; have := HK2.out; omega⟩, by repeat (first | exact Drawn0.refl _ | apply Drawn0.step)⟩
         ·
          replace c8 := Bool.eq_false_iff.mpr c8
          subst c8
          have H1 : (colloquyref13_Floor.l1 k2 a0 (wrap64 (x5_2 + 1)) (wrap64 (Int.tdiv x6_2 2)) ((Int.tmod x6_2 2) == 1)) = some (r1, r2) := by rw [if_neg (show ¬ (false = true) by decide)] at H; exact H
          clear H
          have H := H1
          clear H1
          have H' := Aside0.mk H
          clear H
          go_wp2
          go_roundg k2
          case measure => have := HK1.out; have := HK2.out; omega
          case rel => exact ⟨(wrap64 (x5_2 + 1)), (wrap64 (Int.tdiv x6_2 2)), (((Int.tmod x6_2 2) == 1)), (by first | rfl | (simp; done) | (simp [*]; done)), (by first | rfl | (simp; done) | (simp [*]; done)), (by first | rfl | (simp; done) | (simp [*]; done)), H', ⟨by have := HK1.out; have := HK2.out; omega⟩, by repeat (first | exact Drawn0.refl _ | apply Drawn0.step)⟩
        ·
         rw [if_neg c7] at H
         have c7b0 : decide (x5_2 < 52) = false := decide_eq_false c7
         clear c7
         by_cases c9 : a0 < 9223372036854775808
         ·
          rw [if_pos c9] at H
          have c9b0 : decide (a0 < 9223372036854775808) = true := decide_eq_true c9
          clear c9
          simp only [Option.some.injEq, Prod.mk.injEq] at H
          obtain ⟨rfl, rfl⟩ := H
          go_wp2
          go_ret2
          exact ⟨by first | rfl | (simp; done) | (simp [*]; done), by repeat (first | exact Drawn0.refl _ | apply Drawn0.step)⟩
         ·
          rw [if_neg c9] at H
          have c9b0 : decide (a0 < 9223372036854775808) = false := decide_eq_false c9
          clear c9
          by_cases c10 : x7_2 = true
          ·
           subst c10
           have H1 : (some (wrap64 ((wrap64 (-x6_2)) - 1), true)) = some (r1, r2) := by rw [if_pos rfl] at H; exact H
           clear H
           have H := H1
           clear H1
           simp only [Option.some.injEq, Prod.mk.injEq] at H
           obtain ⟨rfl, rfl⟩ := H
           go_wp2
           go_ret2
           exact ⟨by first | rfl | (simp; done) | (simp [*]; done), by repeat (first | exact Drawn0.refl _ | apply Drawn0.step)⟩
          ·
           replace c10 := Bool.eq_false_iff.mpr c10
           subst c10
           have H1 : (some (wrap64 (-x6_2), true)) = some (r1, r2) := by rw [if_neg (show ¬ (false = true) by decide)] at H; exact H
           clear H
           have H := H1
           clear H1
           simp only [Option.some.injEq, Prod.mk.injEq] at H
           obtain ⟨rfl, rfl⟩ := H
           go_wp2
           go_ret2
           exact ⟨by first | rfl | (simp; done) | (simp [*]; done), by repeat (first | exact Drawn0.refl _ | apply Drawn0.step)⟩

/-! ### colloquyref13_Same: function 15 -/
def colloquyref13_Same.l0 : Nat → List Int → List Int → Int → Option (Bool)
 | 0, _, _, _ => none
 | k + 1, x0, x1, x5 => if x5 < (x0.length : Int) then (if 0 ≤ x5 then (if x5 < (x1.length : Int) then (if (rd x0 x5) = (rd x1 x5) then (colloquyref13_Same.l0 k x0 x1 (wrap64 (x5 + 1))) else (some false)) else (none)) else (none)) else (some true)
def colloquyref13_Same.f (k : Nat) (l0 : List Int) (l1 : List Int) : Option (Bool) := if (l0.length : Int) = (l1.length : Int) then (colloquyref13_Same.l0 k l0 l1 0) else (some false)
theorem colloquyref13_Same.mono_l : ∀ k, (∀ y0 y1 y2, LeO (colloquyref13_Same.l0 k y0 y1 y2) (colloquyref13_Same.l0 (k + 1) y0 y1 y2))
 | 0 => fun _ _ _ r h => by simp [colloquyref13_Same.l0] at h
 | k + 1 => by
  have ih0 := colloquyref13_Same.mono_l k
  ·
   intro y0 y1 y2
   unfold colloquyref13_Same.l0
   repeat' first
   | (with_reducible exact ih0 _ _ _)
   | (with_reducible exact LeO.refl _)
   | (with_reducible exact LeO.none _)
   | (with_reducible refine LeO.ite ?_ ?_)
   | (with_reducible refine LeO.bind ?_ (fun _ => ?_))
   | exact ih0 _ _ _
   | exact LeO.none _
   | refine LeO.ite ?_ ?_
   | refine LeO.bind ?_ (fun _ => ?_)
theorem colloquyref13_Same.mono : ∀ a0 a1 k, LeO (colloquyref13_Same.f k a0 a1) (colloquyref13_Same.f (k + 1) a0 a1) := by
 intro a0 a1 k
 have ih0 := colloquyref13_Same.mono_l k
 unfold colloquyref13_Same.f
 repeat' first
   | (with_reducible exact ih0 _ _ _)
   | (with_reducible exact LeO.refl _)
   | (with_reducible exact LeO.none _)
   | (with_reducible refine LeO.ite ?_ ?_)
   | (with_reducible refine LeO.bind ?_ (fun _ => ?_))
   | exact ih0 _ _ _
   | exact LeO.none _
   | refine LeO.ite ?_ ?_
   | refine LeO.bind ?_ (fun _ => ?_)
set_option maxHeartbeats 8000000 in
set_option maxRecDepth 100000 in
theorem colloquyref13_Same.calls (k : Nat) (A0 : Option Addr) (c0 : Nat) (l0 : List Int) (A1 : Option Addr) (c1 : Nat) (l1 : List Int) (r : Bool) (w : World) (hr0 : Kd.C (Kd.int .u64) w A0 l0.length l0) (hc0 : l0.length ≤ c0) (hr1 : Kd.C (Kd.int .u64) w A1 l1.length l1) (hc1 : l1.length ≤ c1) (h : colloquyref13_Same.f k l0 l1 = some r) :
  Calls Try.prog 15 #[.slice A0 l0.length c0, .slice A1 l1.length c1] w fun e w' => e = .returned (.bool r) ∧ Drawn0 w w' := by
 have HR0 := Aside0.mk hr0
 have HC0 := Aside0.mk hc0
 clear hr0 hc0
 have HR1 := Aside0.mk hr1
 have HC1 := Aside0.mk hc1
 clear hr1 hc1
 have H : (if (l0.length : Int) = (l1.length : Int) then (colloquyref13_Same.l0 k l0 l1 0) else (some false)) = some r := h
 clear h
 by_cases c3 : (l0.length : Int) = (l1.length : Int)
 ·
  rw [if_pos c3] at H
  have c3b0 : ((l0.length : Int) == (l1.length : Int)) = true := beq_iff_eq.mpr c3
  have c3b1 : ((l0.length : Int) != (l1.length : Int)) = false := bne_eq_false_iff_eq.mpr c3
  have c3b2 : (l0.length == l1.length) = true := by first | simpa using c3 | (simp at c3 ⊢; omega)
  clear c3
  have H' := Aside0.mk H
  clear H
  go_enter Try.func15, Try.ntmps15
  go_wp2
  repeat (go_quiet (fail); try go_wp2)
  go_loopg [5] k (fun kq v5 w' => ∃ (x5_1 : Int), v5 = .int .i64 x5_1 ∧ Aside0 (colloquyref13_Same.l0 kq l0 l1 x5_1 = some r) ∧ Aside0 (kq ≤ k) ∧ Drawn0 w w')
  case atStart => exact ⟨(0), (by first | rfl | (simp; done) | (simp [*]; done)), H', ⟨Nat.le_refl _⟩, by repeat (first | exact Drawn0.refl _ | apply Drawn0.step)⟩
  case round =>
   clear H'
   try clear c1
   try clear p2
   try clear c3
   try clear c3b0
   try clear c3b1
   try clear c3b2
   obtain ⟨x5_1, rfl, HA, HK1, ⟨m1, rfl⟩⟩ := hrel
   cases gk with
   | zero => exact absurd HA.out (by simp [colloquyref13_Same.l0])
   | succ k1 =>
    have H := HA.out
    clear HA
    simp only [colloquyref13_Same.l0] at H
    by_cases c4 : x5_1 < (l0.length : Int)
    ·
     rw [if_pos c4] at H
     have c4b0 : decide (x5_1 < (l0.length : Int)) = true := decide_eq_true c4
     clear c4
     by_cases c5 : 0 ≤ x5_1
     ·
      rw [if_pos c5] at H
      have c5b0 : decide (0 ≤ x5_1) = true := decide_eq_true c5
      clear c5
      by_cases c6 : x5_1 < (l1.length : Int)
      ·
       rw [if_pos c6] at H
       have c6b0 : decide (x5_1 < (l1.length : Int)) = true := decide_eq_true c6
       clear c6
       by_cases c7 : (rd l0 x5_1) = (rd l1 x5_1)
       ·
        rw [if_pos c7] at H
        have c7b0 : ((rd l0 x5_1) == (rd l1 x5_1)) = true := beq_iff_eq.mpr c7
        have c7b1 : ((rd l0 x5_1) != (rd l1 x5_1)) = false := bne_eq_false_iff_eq.mpr c7
        clear c7
        have H' := Aside0.mk H
        clear H
        have p107 : 0 ≤ (x5_1 : Int) := of_decide_eq_true (by first | (with_reducible assumption) | assumption)
        have q107 : x5_1 < (l0.length : Int) := of_decide_eq_true (by first | (with_reducible assumption) | assumption)
        obtain ⟨ad107, e107, hx107_0⟩ := Kd.at_int HR0.out x5_1 p107 q107
        cases e107
        replace p107 := eq_true p107
        replace q107 := eq_true q107
        have p108 : 0 ≤ (x5_1 : Int) := of_decide_eq_true (by first | (with_reducible assumption) | assumption)
        have q108 : x5_1 < (l1.length : Int) := of_decide_eq_true (by first | (with_reducible assumption) | assumption)
        obtain ⟨ad108, e108, hx108_0⟩ := Kd.at_int HR1.out x5_1 p108 q108
        cases e108
        replace p108 := eq_true p108
        replace q108 := eq_true q108
        go_wp2
        repeat (go_quiet (fail); try go_wp2)
        go_roundg k1
        case measure => have := HK1.out; omega
        case rel => exact ⟨(wrap64 (x5_1 + 1)), (by first | rfl | (simp; done) | (simp [*]; done)), H', ⟨by have := HK1.out; omega⟩, by repeat (first | exact Drawn0.refl _ | apply Drawn0.step)⟩
       ·
        rw [if_neg c7] at H
        have c7b0 : ((rd l0 x5_1) == (rd l1 x5_1)) = false := beq_eq_false_iff_ne.mpr c7
        have c7b1 : ((rd l0 x5_1) != (rd l1 x5_1)) = true := bne_iff_ne.mpr c7
        obtain rfl := Option.some.inj H
        have p107 : 0 ≤ (x5_1 : Int) := of_decide_eq_true (by first | (with_reducible assumption) | assumption)
        have q107 : x5_1 < (l0.length : Int) := of_decide_eq_true (by first | (with_reducible assumption) | assumption)
        obtain ⟨ad107, e107, hx107_0⟩ := Kd.at_int HR0.out x5_1 p107 q107
        cases e107
        replace p107 := eq_true p107
        replace q107 := eq_true q107
        have p108 : 0 ≤ (x5_1 : Int) := of_decide_eq_true (by first | (with_reducible assumption) | assumption)
        have q108 : x5_1 < (l1.length : Int) := of_decide_eq_true (by first | (with_reducible assumption) | assumption)
        obtain ⟨ad108, e108, hx108_0⟩ := Kd.at_int HR1.out x5_1 p108 q108
        cases e108
        replace p108 := eq_true p108
        replace q108 := eq_true q108
        go_wp2
        repeat (go_quiet (fail); try go_wp2)
        go_ret
        exact ⟨by first | rfl | (simp; done) | (simp [*]; done), by repeat (first | exact Drawn0.refl _ | apply Drawn0.step)⟩
      ·
       rw [if_neg c6] at H
       exact absurd H (by simp)
     ·
      rw [if_neg c5] at H
      exact absurd H (by simp)
    ·
     rw [if_neg c4] at H
     have c4b0 : decide (x5_1 < (l0.length : Int)) = false := decide_eq_false c4
     clear c4
     obtain rfl := Option.some.inj H
     go_wp2
     repeat (go_quiet (fail); try go_wp2)
     go_ret
     exact ⟨by first | rfl | (simp; done) | (simp [*]; done), by repeat (first | exact Drawn0.refl _ | apply Drawn0.step)⟩
 ·
  rw [if_neg c3] at H
  have c3b0 : ((l0.length : Int) == (l1.length : Int)) = false := beq_eq_false_iff_ne.mpr c3
  have c3b1 : ((l0.length : Int) != (l1.length : Int)) = true := bne_iff_ne.mpr c3
  have c3b2 : (l0.length == l1.length) = false := by first | simpa using c3 | (simp at c3 ⊢; omega)
  obtain rfl := Option.some.inj H
  go_enter Try.func15, Try.ntmps15
  go_wp2
  repeat (go_quiet (fail); try go_wp2)
  go_ret
  exact ⟨by first | rfl | (simp; done) | (simp [*]; done), by repeat (first | exact Drawn0.refl _ | apply Drawn0.step)⟩

-- NOT PRINTED: function 27 (slices_Clone_uint64_uint64)

-- NOT PRINTED: function 46 (slices_insertionSortCmpFunc_uint64)

-- NOT PRINTED: function 53 (slices_swapRangeCmpFunc_uint64)

-- NOT PRINTED: function 50 (slices_rotateCmpFunc_uint64)

-- NOT PRINTED: function 47 (slices_symMergeCmpFunc_uint64)

-- NOT PRINTED: function 41 (slices_stableCmpFunc_uint64)

-- NOT PRINTED: function 28 (slices_SortStableFunc_uint64_uint64)

/-! ### score_Sort: function 16, by hand -/
-- making: yes
def score_Sort.f (l : List Int) : Option (List Int) := if l.length ≤ 1099511627776 ∧ (l.all fun x => decide (0 ≤ x) && decide (x < 18446744073709551616)) = true then some (S.sortS kz l) else none
theorem score_Sort.calls (A0 : Option Addr) (c0 : Nat) (l0 : List Int) (r : List Int) (w : World) (hr0 : Kd.C (Kd.int .u64) w A0 l0.length l0) (hc0 : l0.length ≤ c0) (h : score_Sort.f l0 = some r) :
    Calls Try.prog 16 #[.slice A0 l0.length c0] w fun e w' => ∃ v0_ : Value, e = .returned (v0_) ∧ Kd.R (Kd.int .u64) 22 w' w.heap.size (fun _ => True) v0_ r ∧ Below w.heap.size w w' := by
  unfold score_Sort.f at h
  by_cases hl : l0.length ≤ 1099511627776 ∧ (l0.all fun x => decide (0 ≤ x) && decide (x < 18446744073709551616)) = true
  · rw [if_pos hl] at h
    obtain rfl := Option.some.inj h
    clear h
    have hW : Wd l0 := fun x hx => by
      have := List.all_eq_true.1 hl.2 x hx
      simpa using this
    exact sort_calls A0 c0 l0 w hr0 hc0 hl.1 hW
  · rw [if_neg hl] at h; cases h

/-! ### colloquyref13_odd: function 43 -/
def colloquyref13_odd.f (a0 : Int) : Option (Bool) := some (decide ((Go.bits .andNot .u64 a0 9223372036854775808) > 9218868437227405312))
set_option maxHeartbeats 8000000 in
set_option maxRecDepth 100000 in
theorem colloquyref13_odd.calls (a0 : Int) (r : Bool) (w : World) (h : colloquyref13_odd.f a0 = some r) :
  Calls Try.prog 43 #[.int .u64 a0] w fun e w' => e = .returned (.bool r) ∧ Drawn0 w w' := by
 have H : (some (decide ((Go.bits .andNot .u64 a0 9223372036854775808) > 9218868437227405312))) = some r := h
 clear h
 obtain rfl := Option.some.inj H
 go_enter Try.func43, Try.ntmps43
 go_wp2
 go_ret
 exact ⟨by first | rfl | (simp; done) | (simp [*]; done), by repeat (first | exact Drawn0.refl _ | apply Drawn0.step)⟩

/-! ### colloquyref13_rank: function 33, by hand -/
-- making: no
def rankZ (x : Int) : Int := if (Go.bits .andNot .u64 x 9223372036854775808) > 9218868437227405312 then 18446744073709551615 else if x ≥ 9223372036854775808 then 18446744073709551615 - x else x + 9223372036854775808
theorem notZ (X : Nat) (hX : X < 18446744073709551616) : Go.bits .xor .u64 IntKind.u64.max (X : Int) = 18446744073709551615 - (X : Int) := by
  have h : Go.bits .xor .u64 ((18446744073709551615 : Nat) : Int) (X : Int) = ((18446744073709551615 ^^^ X : Nat) : Int) := u64_xor_nat _ _ (by omega) hX
  have e : 18446744073709551615 ^^^ X = 18446744073709551615 - X := by
    have h1 : (BitVec.allOnes 64 ^^^ BitVec.ofNat 64 X).toNat = 18446744073709551615 - X := by
      rw [BitVec.allOnes_xor, BitVec.toNat_not, BitVec.toNat_ofNat, Nat.mod_eq_of_lt (by omega)]
    rw [← h1, BitVec.toNat_xor, BitVec.toNat_ofNat, Nat.mod_eq_of_lt (show X < 2 ^ 64 by omega)]
    rfl
  rw [e] at h
  have m : IntKind.u64.max = ((18446744073709551615 : Nat) : Int) := by rfl
  rw [m, h]
  omega
def colloquyref13_rank.f (x : Int) : Option Int := if 0 ≤ x ∧ x < 18446744073709551616 then some (rankZ x) else none
theorem colloquyref13_rank.calls (a0 : Int) (r : Int) (w : World) (h : colloquyref13_rank.f a0 = some r) :
    Calls Try.prog 33 #[.int .u64 a0] w fun e w' => e = .returned (.int .u64 r) ∧ Drawn0 w w' := by
  unfold colloquyref13_rank.f at h
  by_cases hx : 0 ≤ a0 ∧ a0 < 18446744073709551616
  · rw [if_pos hx] at h
    obtain rfl := Option.some.inj h
    clear h
    unfold rankZ
    have hq := colloquyref13_odd.calls a0 _ w rfl
    obtain ⟨q, hqq⟩ : ∃ q, Go.bits .andNot .u64 a0 9223372036854775808 = q := ⟨_, rfl⟩
    rw [hqq] at hq ⊢
    have HQ := Aside0.mk hq
    clear hq hqq
    obtain ⟨r, hr⟩ : ∃ r, (if q > 9218868437227405312 then (18446744073709551615 : Int) else if a0 ≥ 9223372036854775808 then 18446744073709551615 - a0 else a0 + 9223372036854775808) = r := ⟨_, rfl⟩
    rw [hr]
    have HR := Aside0.mk hr
    clear hr
    go_enter Try.func33, Try.ntmps33
    go_wp2_with fail
    refine HQ.out.mono ?_
    rintro e w1 ⟨rfl, hd⟩
    by_cases h1 : q > 9218868437227405312
    · have d1 : decide (q > 9218868437227405312) = true := decide_eq_true h1
      have e1 : r = 18446744073709551615 := by rw [← HR.out, if_pos h1]
      have HE := Aside0.mk e1
      clear e1
      go_wp2_with fail
      go_ret
      exact ⟨by rw [HE.out]; rfl, hd⟩
    · have d1 : decide (q > 9218868437227405312) = false := decide_eq_false h1
      by_cases h2 : a0 ≥ 9223372036854775808
      · have e1 : r = 18446744073709551615 - a0 := by rw [← HR.out, if_neg h1, if_pos h2]
        have HE := Aside0.mk e1
        clear e1
        obtain ⟨X, rfl⟩ := Int.eq_ofNat_of_zero_le hx.1
        have hn := notZ X (by omega)
        go_wp2_with fail
        go_ret
        exact ⟨by rw [HE.out, ← hn]; rfl, hd⟩
      · have e1 : r = a0 + 9223372036854775808 := by rw [← HR.out, if_neg h1, if_neg h2]
        have HE := Aside0.mk e1
        clear e1
        go_wp2_with fail
        go_ret
        exact ⟨by rw [HE.out]; rfl, hd⟩
  · rw [if_neg hx] at h; cases h

/-! ### colloquyref13_Cmp: function 19 -/
def colloquyref13_Cmp.f (a0 : Int) (a1 : Int) : Option (Int) := (colloquyref13_rank.f a0).bind fun t109 => ((colloquyref13_rank.f a1).bind fun t110 => (if t109 < t110 then (some (-1)) else (if t109 > t110 then (some 1) else (some 0))))
set_option maxHeartbeats 8000000 in
set_option maxRecDepth 100000 in
theorem colloquyref13_Cmp.calls (a0 : Int) (a1 : Int) (r : Int) (w : World) (h : colloquyref13_Cmp.f a0 a1 = some r) :
  Calls Try.prog 19 #[.int .u64 a0, .int .u64 a1] w fun e w' => e = .returned (.int .i64 r) ∧ Drawn0 w w' := by
 have H : ((colloquyref13_rank.f a0).bind fun t109 => ((colloquyref13_rank.f a1).bind fun t110 => (if t109 < t110 then (some (-1)) else (if t109 > t110 then (some 1) else (some 0))))) = some r := h
 clear h
 replace H := Option.bind_eq_some_iff.mp H
 obtain ⟨t109, A30, H⟩ := H
 replace H : ((colloquyref13_rank.f a1).bind fun t110 => (if t109 < t110 then (some (-1)) else (if t109 > t110 then (some 1) else (some 0)))) = some r := H
 have A3 := Aside0.mk A30
 clear A30
 replace H := Option.bind_eq_some_iff.mp H
 obtain ⟨t110, A40, H⟩ := H
 replace H : (if t109 < t110 then (some (-1)) else (if t109 > t110 then (some 1) else (some 0))) = some r := H
 have A4 := Aside0.mk A40
 clear A40
 by_cases c5 : t109 < t110
 ·
  rw [if_pos c5] at H
  have c5b0 : decide (t109 < t110) = true := decide_eq_true c5
  clear c5
  obtain rfl := Option.some.inj H
  go_enter Try.func19, Try.ntmps19
  go_wp2_with (first | ((with_reducible refine gate_callee (f := 33) rfl ?_); refine goesL_ (some 8) rfl rfl Try.func33 (by kernel_rfl) rfl #[.int .u64 a0] rfl (by (try simp only [List.map_toArray, List.map_cons, List.map_nil]); first | done | rfl | (simp only [List.length_drop, List.length_take]; rfl)) ?_; (with_reducible refine (colloquyref13_rank.calls a0 t109 _ A3.out).mono ?_); rintro e w' ⟨rfl, ⟨nd, rfl⟩⟩; refine ⟨_, rfl, ?_⟩) | ((with_reducible refine gate_callee (f := 33) rfl ?_); refine goesL_ (some 10) rfl rfl Try.func33 (by kernel_rfl) rfl #[.int .u64 a1] rfl (by (try simp only [List.map_toArray, List.map_cons, List.map_nil]); first | done | rfl | (simp only [List.length_drop, List.length_take]; rfl)) ?_; (with_reducible refine (colloquyref13_rank.calls a1 t110 _ A4.out).mono ?_); rintro e w' ⟨rfl, ⟨nd, rfl⟩⟩; refine ⟨_, rfl, ?_⟩))
  go_ret
  exact ⟨by first | rfl | (simp; done) | (simp [*]; done), by repeat (first | exact Drawn0.refl _ | apply Drawn0.step)⟩
 ·
  rw [if_neg c5] at H
  have c5b0 : decide (t109 < t110) = false := decide_eq_false c5
  clear c5
  by_cases c6 : t109 > t110
  ·
   rw [if_pos c6] at H
   have c6b0 : decide (t110 < t109) = true := decide_eq_true c6
   clear c6
   obtain rfl := Option.some.inj H
   go_enter Try.func19, Try.ntmps19
   go_wp2_with (first | ((with_reducible refine gate_callee (f := 33) rfl ?_); refine goesL_ (some 8) rfl rfl Try.func33 (by kernel_rfl) rfl #[.int .u64 a0] rfl (by (try simp only [List.map_toArray, List.map_cons, List.map_nil]); first | done | rfl | (simp only [List.length_drop, List.length_take]; rfl)) ?_; (with_reducible refine (colloquyref13_rank.calls a0 t109 _ A3.out).mono ?_); rintro e w' ⟨rfl, ⟨nd, rfl⟩⟩; refine ⟨_, rfl, ?_⟩) | ((with_reducible refine gate_callee (f := 33) rfl ?_); refine goesL_ (some 10) rfl rfl Try.func33 (by kernel_rfl) rfl #[.int .u64 a1] rfl (by (try simp only [List.map_toArray, List.map_cons, List.map_nil]); first | done | rfl | (simp only [List.length_drop, List.length_take]; rfl)) ?_; (with_reducible refine (colloquyref13_rank.calls a1 t110 _ A4.out).mono ?_); rintro e w' ⟨rfl, ⟨nd, rfl⟩⟩; refine ⟨_, rfl, ?_⟩))
   go_ret
   exact ⟨by first | rfl | (simp; done) | (simp [*]; done), by repeat (first | exact Drawn0.refl _ | apply Drawn0.step)⟩
  ·
   rw [if_neg c6] at H
   have c6b0 : decide (t110 < t109) = false := decide_eq_false c6
   clear c6
   obtain rfl := Option.some.inj H
   go_enter Try.func19, Try.ntmps19
   go_wp2_with (first | ((with_reducible refine gate_callee (f := 33) rfl ?_); refine goesL_ (some 8) rfl rfl Try.func33 (by kernel_rfl) rfl #[.int .u64 a0] rfl (by (try simp only [List.map_toArray, List.map_cons, List.map_nil]); first | done | rfl | (simp only [List.length_drop, List.length_take]; rfl)) ?_; (with_reducible refine (colloquyref13_rank.calls a0 t109 _ A3.out).mono ?_); rintro e w' ⟨rfl, ⟨nd, rfl⟩⟩; refine ⟨_, rfl, ?_⟩) | ((with_reducible refine gate_callee (f := 33) rfl ?_); refine goesL_ (some 10) rfl rfl Try.func33 (by kernel_rfl) rfl #[.int .u64 a1] rfl (by (try simp only [List.map_toArray, List.map_cons, List.map_nil]); first | done | rfl | (simp only [List.length_drop, List.length_take]; rfl)) ?_; (with_reducible refine (colloquyref13_rank.calls a1 t110 _ A4.out).mono ?_); rintro e w' ⟨rfl, ⟨nd, rfl⟩⟩; refine ⟨_, rfl, ?_⟩))
   go_ret
   exact ⟨by first | rfl | (simp; done) | (simp [*]; done), by repeat (first | exact Drawn0.refl _ | apply Drawn0.step)⟩

end Go.Proofs.Ytlobedghenflfaa.P
