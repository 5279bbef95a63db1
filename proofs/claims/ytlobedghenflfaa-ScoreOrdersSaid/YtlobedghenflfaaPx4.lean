/- Plain Lean functions and their contracts over the translation, written by a program of this session (myprint.py, over the kit's print); no condition but each contract's own. -/
import Derived.Test.YtlobedghenflfaaPx0
import Derived.Test.YtlobedghenflfaaPx1
namespace Go.Proofs.Ytlobedghenflfaa.P
open Go.RowKit Go.Proofs.YtlobedghenflfaaW.PrintWords Go.Proofs.YtlobedghenflfaaW.PrintLast Go.Proofs.YtlobedghenflfaaW.PrintMore
attribute [local go_sem] max2_int min2_int max_two min_two max_three min_three max_four min_four   -- for this text's walks alone
set_option linter.unusedVariables false
set_option linter.unusedSimpArgs false

/-! ### colloquylaw13_ScoreSigns: function 6 -/
def colloquylaw13_ScoreSigns.j0 : Nat → Int → Int → Bool → Bool → Option (Bool)
 | 0, _, _, _, _ => none
 | k + 1, x0, x1, x5, x43 => if x43 = true then (some x5) else ((score_Quotient.f x0 x1).bind fun t183 => ((score_Quotient.f (wrap64 (-x0)) x1).bind fun t184 => ((score_Quotient.f x0 (wrap64 (-x1))).bind fun t185 => (if t184 = t185 then (if t183 = (Go.bits .xor .u64 t184 9223372036854775808) then (some ((decide (t183 ≥ 9223372036854775808)) == ((decide (x0 < 0)) != (decide (x1 < 0))))) else (some false)) else (some false)))))
def colloquylaw13_ScoreSigns.f (k : Nat) (a0 : Int) (a1 : Int) : Option (Bool) := (colloquylaw13_awake.f).bind fun t182 => (if t182 = true then (if a0 = 0 then (colloquylaw13_ScoreSigns.j0 k a0 a1 t182 true) else (if a1 = 0 then (colloquylaw13_ScoreSigns.j0 k a0 a1 t182 true) else (if a0 < (-9007199254740992) then (colloquylaw13_ScoreSigns.j0 k a0 a1 t182 true) else (if a0 > 9007199254740992 then (colloquylaw13_ScoreSigns.j0 k a0 a1 t182 true) else (if a1 < (-9007199254740992) then (colloquylaw13_ScoreSigns.j0 k a0 a1 t182 true) else (colloquylaw13_ScoreSigns.j0 k a0 a1 t182 (decide (a1 > 9007199254740992)))))))) else (colloquylaw13_ScoreSigns.j0 k a0 a1 t182 true))
theorem colloquylaw13_ScoreSigns.mono_l : ∀ k, (∀ y0 y1 y2 y3, LeO (colloquylaw13_ScoreSigns.j0 k y0 y1 y2 y3) (colloquylaw13_ScoreSigns.j0 (k + 1) y0 y1 y2 y3))
 | 0 => fun _ _ _ _ r h => by simp [colloquylaw13_ScoreSigns.j0] at h
 | k + 1 => by
  have ih0 := colloquylaw13_ScoreSigns.mono_l k
  ·
   intro y0 y1 y2 y3
   unfold colloquylaw13_ScoreSigns.j0
   repeat' first
   | (with_reducible exact ih0 _ _ _ _)
   | (with_reducible exact LeO.refl _)
   | (with_reducible exact LeO.none _)
   | (with_reducible refine LeO.ite ?_ ?_)
   | (with_reducible refine LeO.bind ?_ (fun _ => ?_))
   | exact ih0 _ _ _ _
   | exact LeO.none _
   | refine LeO.ite ?_ ?_
   | refine LeO.bind ?_ (fun _ => ?_)
theorem colloquylaw13_ScoreSigns.mono : ∀ a0 a1 k, LeO (colloquylaw13_ScoreSigns.f k a0 a1) (colloquylaw13_ScoreSigns.f (k + 1) a0 a1) := by
 intro a0 a1 k
 have ih0 := colloquylaw13_ScoreSigns.mono_l k
 unfold colloquylaw13_ScoreSigns.f
 repeat' first
   | (with_reducible exact ih0 _ _ _ _)
   | (with_reducible exact LeO.refl _)
   | (with_reducible exact LeO.none _)
   | (with_reducible refine LeO.ite ?_ ?_)
   | (with_reducible refine LeO.bind ?_ (fun _ => ?_))
   | exact ih0 _ _ _ _
   | exact LeO.none _
   | refine LeO.ite ?_ ?_
   | refine LeO.bind ?_ (fun _ => ?_)
set_option maxHeartbeats 8000000 in
set_option maxRecDepth 100000 in
theorem colloquylaw13_ScoreSigns.calls (k : Nat) (a0 : Int) (a1 : Int) (r : Bool) (w : World) (hrt : r = true) (h : colloquylaw13_ScoreSigns.f k a0 a1 = some r) :
  Calls Try.prog 6 #[.int .i64 a0, .int .i64 a1] w fun e w' => e = .returned (.bool r) ∧ Drawn0 w w' := by
 have HRT := Aside0.mk hrt
 clear hrt
 have H : ((colloquylaw13_awake.f).bind fun t182 => (if t182 = true then (if a0 = 0 then (colloquylaw13_ScoreSigns.j0 k a0 a1 t182 true) else (if a1 = 0 then (colloquylaw13_ScoreSigns.j0 k a0 a1 t182 true) else (if a0 < (-9007199254740992) then (colloquylaw13_ScoreSigns.j0 k a0 a1 t182 true) else (if a0 > 9007199254740992 then (colloquylaw13_ScoreSigns.j0 k a0 a1 t182 true) else (if a1 < (-9007199254740992) then (colloquylaw13_ScoreSigns.j0 k a0 a1 t182 true) else (colloquylaw13_ScoreSigns.j0 k a0 a1 t182 (decide (a1 > 9007199254740992)))))))) else (colloquylaw13_ScoreSigns.j0 k a0 a1 t182 true))) = some r := h
 clear h
 replace H := Option.bind_eq_some_iff.mp H
 obtain ⟨t182, A30, H⟩ := H
 replace H : (if t182 = true then (if a0 = 0 then (colloquylaw13_ScoreSigns.j0 k a0 a1 t182 true) else (if a1 = 0 then (colloquylaw13_ScoreSigns.j0 k a0 a1 t182 true) else (if a0 < (-9007199254740992) then (colloquylaw13_ScoreSigns.j0 k a0 a1 t182 true) else (if a0 > 9007199254740992 then (colloquylaw13_ScoreSigns.j0 k a0 a1 t182 true) else (if a1 < (-9007199254740992) then (colloquylaw13_ScoreSigns.j0 k a0 a1 t182 true) else (colloquylaw13_ScoreSigns.j0 k a0 a1 t182 (decide (a1 > 9007199254740992)))))))) else (colloquylaw13_ScoreSigns.j0 k a0 a1 t182 true)) = some r := H
 have A3 := Aside0.mk A30
 clear A30
 have HC4 := Aside0.mk H
 clear H
 go_enter Try.func6, Try.ntmps6
 go_upto_region 3 with (first | ((with_reducible refine gate_callee (f := 12) rfl ?_); refine goesL_ (some 11) rfl rfl Try.func12 (by kernel_rfl) rfl #[] rfl (by (try simp only [List.map_toArray, List.map_cons, List.map_nil]); first | done | rfl | (simp only [List.length_drop, List.length_take]; rfl)) ?_; (with_reducible refine (colloquylaw13_awake.calls  t182 _ A3.out).mono ?_); rintro e w' ⟨rfl, ⟨nd, rfl⟩⟩; refine ⟨_, rfl, ?_⟩))
 (try simp only [Act.put, List.setIfInBounds_toArray, List.set_cons_zero, List.set_cons_succ])
 go_cut [43] (fun v43 wc => ∃ (kq : Nat) (x43_3 : Bool), v43 = .bool x43_3 ∧ Aside0 (colloquylaw13_ScoreSigns.j0 kq a0 a1 t182 x43_3 = some r) ∧ Aside0 (kq ≤ k) ∧ Drawn0 w wc)
 case first =>
  have H := HC4.out
  clear HC4
  by_cases c5 : t182 = true
  ·
   subst c5
   have H1 : (if a0 = 0 then (colloquylaw13_ScoreSigns.j0 k a0 a1 true true) else (if a1 = 0 then (colloquylaw13_ScoreSigns.j0 k a0 a1 true true) else (if a0 < (-9007199254740992) then (colloquylaw13_ScoreSigns.j0 k a0 a1 true true) else (if a0 > 9007199254740992 then (colloquylaw13_ScoreSigns.j0 k a0 a1 true true) else (if a1 < (-9007199254740992) then (colloquylaw13_ScoreSigns.j0 k a0 a1 true true) else (colloquylaw13_ScoreSigns.j0 k a0 a1 true (decide (a1 > 9007199254740992)))))))) = some r := by rw [if_pos rfl] at H; exact H
   clear H
   have H := H1
   clear H1
   by_cases c6 : a0 = 0
   ·
    rw [if_pos c6] at H
    have c6b0 : (a0 == 0) = true := beq_iff_eq.mpr c6
    have c6b1 : (a0 != 0) = false := bne_eq_false_iff_eq.mpr c6
    clear c6
    (first | rw [c6b0] | (simp only [i64_w, i32_w]; rw [c6b0]) | skip)
    have H' := Aside0.mk H
    clear H
    go_wp2
    go_meet
    case rel => exact ⟨_, (true), (by first | rfl | (simp; done) | (simp [*]; done)), H', ⟨by first | omega | exact Nat.le_refl _⟩, by repeat (first | exact Drawn0.refl _ | apply Drawn0.step)⟩
   ·
    rw [if_neg c6] at H
    have c6b0 : (a0 == 0) = false := beq_eq_false_iff_ne.mpr c6
    have c6b1 : (a0 != 0) = true := bne_iff_ne.mpr c6
    (first | rw [c6b0] | (simp only [i64_w, i32_w]; rw [c6b0]) | skip)
    by_cases c7 : a1 = 0
    ·
     rw [if_pos c7] at H
     have c7b0 : (a1 == 0) = true := beq_iff_eq.mpr c7
     have c7b1 : (a1 != 0) = false := bne_eq_false_iff_eq.mpr c7
     clear c7
     have H' := Aside0.mk H
     clear H
     go_wp2
     go_meet
     case rel => exact ⟨_, (true), (by first | rfl | (simp; done) | (simp [*]; done)), H', ⟨by first | omega | exact Nat.le_refl _⟩, by repeat (first | exact Drawn0.refl _ | apply Drawn0.step)⟩
    ·
     rw [if_neg c7] at H
     have c7b0 : (a1 == 0) = false := beq_eq_false_iff_ne.mpr c7
     have c7b1 : (a1 != 0) = true := bne_iff_ne.mpr c7
     by_cases c8 : a0 < (-9007199254740992)
     ·
      rw [if_pos c8] at H
      have c8b0 : decide (a0 < (-9007199254740992)) = true := decide_eq_true c8
      clear c8
      have H' := Aside0.mk H
      clear H
      go_wp2
      go_meet
      case rel => exact ⟨_, (true), (by first | rfl | (simp; done) | (simp [*]; done)), H', ⟨by first | omega | exact Nat.le_refl _⟩, by repeat (first | exact Drawn0.refl _ | apply Drawn0.step)⟩
     ·
      rw [if_neg c8] at H
      have c8b0 : decide (a0 < (-9007199254740992)) = false := decide_eq_false c8
      clear c8
      by_cases c9 : a0 > 9007199254740992
      ·
       rw [if_pos c9] at H
       have c9b0 : decide (9007199254740992 < a0) = true := decide_eq_true c9
       clear c9
       have H' := Aside0.mk H
       clear H
       go_wp2
       go_meet
       case rel => exact ⟨_, (true), (by first | rfl | (simp; done) | (simp [*]; done)), H', ⟨by first | omega | exact Nat.le_refl _⟩, by repeat (first | exact Drawn0.refl _ | apply Drawn0.step)⟩
      ·
       rw [if_neg c9] at H
       have c9b0 : decide (9007199254740992 < a0) = false := decide_eq_false c9
       clear c9
       by_cases c10 : a1 < (-9007199254740992)
       ·
        rw [if_pos c10] at H
        have c10b0 : decide (a1 < (-9007199254740992)) = true := decide_eq_true c10
        clear c10
        have H' := Aside0.mk H
        clear H
        go_wp2
        go_meet
        case rel => exact ⟨_, (true), (by first | rfl | (simp; done) | (simp [*]; done)), H', ⟨by first | omega | exact Nat.le_refl _⟩, by repeat (first | exact Drawn0.refl _ | apply Drawn0.step)⟩
       ·
        rw [if_neg c10] at H
        have c10b0 : decide (a1 < (-9007199254740992)) = false := decide_eq_false c10
        clear c10
        have H' := Aside0.mk H
        clear H
        go_wp2
        go_meet
        case rel => exact ⟨_, (decide (a1 > 9007199254740992)), (by first | rfl | (simp; done) | (simp [*]; done)), H', ⟨by first | omega | exact Nat.le_refl _⟩, by repeat (first | exact Drawn0.refl _ | apply Drawn0.step)⟩
  ·
   replace c5 := Bool.eq_false_iff.mpr c5
   subst c5
   have H1 : (colloquylaw13_ScoreSigns.j0 k a0 a1 false true) = some r := by rw [if_neg (show ¬ (false = true) by decide)] at H; exact H
   clear H
   have H := H1
   clear H1
   have H' := Aside0.mk H
   clear H
   go_wp2
   go_meet
   case rel => exact ⟨_, (true), (by first | rfl | (simp; done) | (simp [*]; done)), H', ⟨by first | omega | exact Nat.le_refl _⟩, by repeat (first | exact Drawn0.refl _ | apply Drawn0.step)⟩
 case rest =>
  clear HC4
  try clear c1
  try clear p2
  try clear c5
  try clear c6
  try clear c6b0
  try clear c6b1
  try clear c7
  try clear c7b0
  try clear c7b1
  try clear c8
  try clear c8b0
  try clear c9
  try clear c9b0
  try clear c10
  try clear c10b0
  obtain ⟨kq, x43_3, rfl, HA, HJ3, ⟨mc3, rfl⟩⟩ := hcut
  cases kq with
  | zero => exact absurd HA.out (by simp [colloquylaw13_ScoreSigns.j0])
  | succ kj3 =>
   have H := HA.out
   clear HA
   simp only [colloquylaw13_ScoreSigns.j0] at H
   by_cases c11 : x43_3 = true
   ·
    subst c11
    have H1 : (some t182) = some r := by rw [if_pos rfl] at H; exact H
    clear H
    have H := H1
    clear H1
    obtain rfl := Option.some.inj H
    go_wp2
    go_ret
    exact ⟨by first | rfl | (simp; done) | (simp [*]; done), by repeat (first | exact Drawn0.refl _ | apply Drawn0.step)⟩
   ·
    replace c11 := Bool.eq_false_iff.mpr c11
    subst c11
    have H1 : ((score_Quotient.f a0 a1).bind fun t183 => ((score_Quotient.f (wrap64 (-a0)) a1).bind fun t184 => ((score_Quotient.f a0 (wrap64 (-a1))).bind fun t185 => (if t184 = t185 then (if t183 = (Go.bits .xor .u64 t184 9223372036854775808) then (some ((decide (t183 ≥ 9223372036854775808)) == ((decide (a0 < 0)) != (decide (a1 < 0))))) else (some false)) else (some false))))) = some r := by rw [if_neg (show ¬ (false = true) by decide)] at H; exact H
    clear H
    have H := H1
    clear H1
    replace H := Option.bind_eq_some_iff.mp H
    obtain ⟨t183, A120, H⟩ := H
    replace H : ((score_Quotient.f (wrap64 (-a0)) a1).bind fun t184 => ((score_Quotient.f a0 (wrap64 (-a1))).bind fun t185 => (if t184 = t185 then (if t183 = (Go.bits .xor .u64 t184 9223372036854775808) then (some ((decide (t183 ≥ 9223372036854775808)) == ((decide (a0 < 0)) != (decide (a1 < 0))))) else (some false)) else (some false)))) = some r := H
    have A12 := Aside0.mk A120
    clear A120
    replace H := Option.bind_eq_some_iff.mp H
    obtain ⟨t184, A130, H⟩ := H
    replace H : ((score_Quotient.f a0 (wrap64 (-a1))).bind fun t185 => (if t184 = t185 then (if t183 = (Go.bits .xor .u64 t184 9223372036854775808) then (some ((decide (t183 ≥ 9223372036854775808)) == ((decide (a0 < 0)) != (decide (a1 < 0))))) else (some false)) else (some false))) = some r := H
    have A13 := Aside0.mk A130
    clear A130
    replace H := Option.bind_eq_some_iff.mp H
    obtain ⟨t185, A140, H⟩ := H
    replace H : (if t184 = t185 then (if t183 = (Go.bits .xor .u64 t184 9223372036854775808) then (some ((decide (t183 ≥ 9223372036854775808)) == ((decide (a0 < 0)) != (decide (a1 < 0))))) else (some false)) else (some false)) = some r := H
    have A14 := Aside0.mk A140
    clear A140
    by_cases c15 : t184 = t185
    ·
     rw [if_pos c15] at H
     have c15b0 : (t184 == t185) = true := beq_iff_eq.mpr c15
     have c15b1 : (t184 != t185) = false := bne_eq_false_iff_eq.mpr c15
     clear c15
     by_cases c16 : t183 = (Go.bits .xor .u64 t184 9223372036854775808)
     ·
      rw [if_pos c16] at H
      have c16b0 : (t183 == (Go.bits .xor .u64 t184 9223372036854775808)) = true := beq_iff_eq.mpr c16
      have c16b1 : (t183 != (Go.bits .xor .u64 t184 9223372036854775808)) = false := bne_eq_false_iff_eq.mpr c16
      clear c16
      obtain rfl := Option.some.inj H
      go_wp2_with (first | ((with_reducible refine gate_callee (f := 20) rfl ?_); refine goesL_ (some 47) rfl rfl Try.func20 (by kernel_rfl) rfl #[.int .i64 a0, .int .i64 a1] rfl (by (try simp only [List.map_toArray, List.map_cons, List.map_nil]); first | done | rfl | (simp only [List.length_drop, List.length_take]; rfl)) ?_; (with_reducible refine (score_Quotient.calls a0 a1 t183 _ A12.out).mono ?_); rintro e w' ⟨rfl, ⟨nd, rfl⟩⟩; refine ⟨_, rfl, ?_⟩) | ((with_reducible refine gate_callee (f := 20) rfl ?_); refine goesL_ (some 51) rfl rfl Try.func20 (by kernel_rfl) rfl #[.int .i64 (wrap64 (-a0)), .int .i64 a1] rfl (by (try simp only [List.map_toArray, List.map_cons, List.map_nil]); first | done | rfl | (simp only [List.length_drop, List.length_take]; rfl)) ?_; (with_reducible refine (score_Quotient.calls (wrap64 (-a0)) a1 t184 _ A13.out).mono ?_); rintro e w' ⟨rfl, ⟨nd, rfl⟩⟩; refine ⟨_, rfl, ?_⟩) | ((with_reducible refine gate_callee (f := 20) rfl ?_); refine goesL_ (some 55) rfl rfl Try.func20 (by kernel_rfl) rfl #[.int .i64 a0, .int .i64 (wrap64 (-a1))] rfl (by (try simp only [List.map_toArray, List.map_cons, List.map_nil]); first | done | rfl | (simp only [List.length_drop, List.length_take]; rfl)) ?_; (with_reducible refine (score_Quotient.calls a0 (wrap64 (-a1)) t185 _ A14.out).mono ?_); rintro e w' ⟨rfl, ⟨nd, rfl⟩⟩; refine ⟨_, rfl, ?_⟩))
      go_ret
      exact ⟨by first | rfl | (simp; done) | (simp [*]; done), by repeat (first | exact Drawn0.refl _ | apply Drawn0.step)⟩
     ·
      rw [if_neg c16] at H
      have c16b0 : (t183 == (Go.bits .xor .u64 t184 9223372036854775808)) = false := beq_eq_false_iff_ne.mpr c16
      have c16b1 : (t183 != (Go.bits .xor .u64 t184 9223372036854775808)) = true := bne_iff_ne.mpr c16
      exact absurd (Option.some.inj H) (by rw [HRT.out]; decide)
    ·
     rw [if_neg c15] at H
     have c15b0 : (t184 == t185) = false := beq_eq_false_iff_ne.mpr c15
     have c15b1 : (t184 != t185) = true := bne_iff_ne.mpr c15
     exact absurd (Option.some.inj H) (by rw [HRT.out]; decide)

/-- THE ONE PURE STATEMENT of colloquylaw13_ScoreSigns: yours. -/
def colloquylaw13_ScoreSigns.Pure : Prop := ∀ (a0 : Int) (a1 : Int), (Lit.int .i64 a0).wf = true → (Lit.int .i64 a1).wf = true → ∃ k, colloquylaw13_ScoreSigns.f k a0 a1 = some true
theorem colloquylaw13_ScoreSigns.walk (P : colloquylaw13_ScoreSigns.Pure) (a0 : Int) (a1 : Int) (w : World) (w0 : (Lit.int .i64 a0).wf = true) (w1 : (Lit.int .i64 a1).wf = true) :
  Calls Try.prog 6 #[.int .i64 a0, .int .i64 a1] w fun e w' => e = .returned (.bool true) ∧ Below w.heap.size w w' := by
 obtain ⟨k, h⟩ := P a0 a1 w0 w1
 refine (colloquylaw13_ScoreSigns.calls k a0 a1 true w rfl h).mono ?_
 rintro e w' ⟨rfl, hd⟩
 exact ⟨rfl, hd.below⟩

/-! ### colloquyref13_bound: function 36 -/
def colloquyref13_bound.f (a0 : Int) : Option (Int) := if a0 > 9007199254740992 then (some 9007199254740992) else (if a0 < (-9007199254740992) then (some (-9007199254740992)) else (some a0))
set_option maxHeartbeats 8000000 in
set_option maxRecDepth 100000 in
theorem colloquyref13_bound.calls (a0 : Int) (r : Int) (w : World) (h : colloquyref13_bound.f a0 = some r) :
  Calls Try.prog 36 #[.int .i64 a0] w fun e w' => e = .returned (.int .i64 r) ∧ Drawn0 w w' := by
 have H : (if a0 > 9007199254740992 then (some 9007199254740992) else (if a0 < (-9007199254740992) then (some (-9007199254740992)) else (some a0))) = some r := h
 clear h
 by_cases c2 : a0 > 9007199254740992
 ·
  rw [if_pos c2] at H
  have c2b0 : decide (9007199254740992 < a0) = true := decide_eq_true c2
  clear c2
  obtain rfl := Option.some.inj H
  go_enter Try.func36, Try.ntmps36
  go_wp2
  go_ret
  exact ⟨by first | rfl | (simp; done) | (simp [*]; done), by repeat (first | exact Drawn0.refl _ | apply Drawn0.step)⟩
 ·
  rw [if_neg c2] at H
  have c2b0 : decide (9007199254740992 < a0) = false := decide_eq_false c2
  clear c2
  by_cases c3 : a0 < (-9007199254740992)
  ·
   rw [if_pos c3] at H
   have c3b0 : decide (a0 < (-9007199254740992)) = true := decide_eq_true c3
   clear c3
   obtain rfl := Option.some.inj H
   go_enter Try.func36, Try.ntmps36
   go_wp2
   go_ret
   exact ⟨by first | rfl | (simp; done) | (simp [*]; done), by repeat (first | exact Drawn0.refl _ | apply Drawn0.step)⟩
  ·
   rw [if_neg c3] at H
   have c3b0 : decide (a0 < (-9007199254740992)) = false := decide_eq_false c3
   clear c3
   obtain rfl := Option.some.inj H
   go_enter Try.func36, Try.ntmps36
   go_wp2
   go_ret
   exact ⟨by first | rfl | (simp; done) | (simp [*]; done), by repeat (first | exact Drawn0.refl _ | apply Drawn0.step)⟩

/-! ### colloquyref13_positive: function 37 -/
mutual
def colloquyref13_positive.l0 : Nat → Int → Int → Int → Option (Int)
 | 0, _, _, _ => none
 | k + 1, x0, x1, x5 => if x0 ≥ (wrap64 (2 * x1)) then (colloquyref13_positive.l0 k x0 (wrap64 (2 * x1)) (wrap64 (x5 + 1))) else (colloquyref13_positive.l1 k x0 x1 x5)
def colloquyref13_positive.l1 : Nat → Int → Int → Int → Option (Int)
 | 0, _, _, _ => none
 | k + 1, x0, x1, x5 => if x0 < x1 then (colloquyref13_positive.l1 k (wrap64 (2 * x0)) x1 (wrap64 (x5 - 1))) else (colloquyref13_positive.l2 k x0 x1 x5 0 0)
def colloquyref13_positive.l2 : Nat → Int → Int → Int → Int → Int → Option (Int)
 | 0, _, _, _, _, _ => none
 | k + 1, x0, x1, x5, x6, x7 => if x7 < 53 then (if x0 ≥ x1 then (colloquyref13_positive.l2 k (wrap64 (2 * (wrap64 (x0 - x1)))) x1 x5 (wrap64 ((wrap64 (2 * x6)) + 1)) (wrap64 (x7 + 1))) else (colloquyref13_positive.l2 k (wrap64 (2 * x0)) x1 x5 (wrap64 (2 * x6)) (wrap64 (x7 + 1)))) else (if x0 > x1 then (colloquyref13_positive.j3 k x5 x6 true) else (if x0 = x1 then (colloquyref13_positive.j3 k x5 x6 ((Int.tmod x6 2) == 1)) else (colloquyref13_positive.j3 k x5 x6 false)))
def colloquyref13_positive.j3 : Nat → Int → Int → Bool → Option (Int)
 | 0, _, _, _ => none
 | k + 1, x5, x6, x51 => if x51 = true then (if (wrap64 (x6 + 1)) = 9007199254740992 then (some (IntKind.u64.wrap ((IntKind.u64.wrap ((IntKind.u64.wrap (wrap64 ((wrap64 (x5 + 1)) + 1023))) * 4503599627370496)) + (IntKind.u64.wrap (wrap64 ((wrap64 (Int.tdiv (wrap64 (x6 + 1)) 2)) - 4503599627370496)))))) else (some (IntKind.u64.wrap ((IntKind.u64.wrap ((IntKind.u64.wrap (wrap64 (x5 + 1023))) * 4503599627370496)) + (IntKind.u64.wrap (wrap64 ((wrap64 (x6 + 1)) - 4503599627370496))))))) else (if x6 = 9007199254740992 then (some (IntKind.u64.wrap ((IntKind.u64.wrap ((IntKind.u64.wrap (wrap64 ((wrap64 (x5 + 1)) + 1023))) * 4503599627370496)) + (IntKind.u64.wrap (wrap64 ((wrap64 (Int.tdiv x6 2)) - 4503599627370496)))))) else (some (IntKind.u64.wrap ((IntKind.u64.wrap ((IntKind.u64.wrap (wrap64 (x5 + 1023))) * 4503599627370496)) + (IntKind.u64.wrap (wrap64 (x6 - 4503599627370496)))))))
end
def colloquyref13_positive.f (k : Nat) (a0 : Int) (a1 : Int) : Option (Int) := colloquyref13_positive.l0 k a0 a1 0
theorem colloquyref13_positive.mono_l : ∀ k, (∀ y0 y1 y2, LeO (colloquyref13_positive.l0 k y0 y1 y2) (colloquyref13_positive.l0 (k + 1) y0 y1 y2)) ∧ (∀ y0 y1 y2, LeO (colloquyref13_positive.l1 k y0 y1 y2) (colloquyref13_positive.l1 (k + 1) y0 y1 y2)) ∧ (∀ y0 y1 y2 y3 y4, LeO (colloquyref13_positive.l2 k y0 y1 y2 y3 y4) (colloquyref13_positive.l2 (k + 1) y0 y1 y2 y3 y4)) ∧ (∀ y0 y1 y2, LeO (colloquyref13_positive.j3 k y0 y1 y2) (colloquyref13_positive.j3 (k + 1) y0 y1 y2))
 | 0 => ⟨fun _ _ _ r h => by simp [colloquyref13_positive.l0] at h, fun _ _ _ r h => by simp [colloquyref13_positive.l1] at h, fun _ _ _ _ _ r h => by simp [colloquyref13_positive.l2] at h, fun _ _ _ r h => by simp [colloquyref13_positive.j3] at h⟩
 | k + 1 => by
  obtain ⟨ih0, ih1, ih2, ih3⟩ := colloquyref13_positive.mono_l k
  refine ⟨?_, ?_, ?_, ?_⟩
  ·
   intro y0 y1 y2
   unfold colloquyref13_positive.l0
   repeat' first
   | (with_reducible exact ih0 _ _ _)
   | (with_reducible exact ih1 _ _ _)
   | (with_reducible exact ih2 _ _ _ _ _)
   | (with_reducible exact ih3 _ _ _)
   | (with_reducible exact LeO.refl _)
   | (with_reducible exact LeO.none _)
   | (with_reducible refine LeO.ite ?_ ?_)
   | (with_reducible refine LeO.bind ?_ (fun _ => ?_))
   | exact ih0 _ _ _
   | exact ih1 _ _ _
   | exact ih2 _ _ _ _ _
   | exact ih3 _ _ _
   | exact LeO.none _
   | refine LeO.ite ?_ ?_
   | refine LeO.bind ?_ (fun _ => ?_)
  ·
   intro y0 y1 y2
   unfold colloquyref13_positive.l1
   repeat' first
   | (with_reducible exact ih0 _ _ _)
   | (with_reducible exact ih1 _ _ _)
   | (with_reducible exact ih2 _ _ _ _ _)
   | (with_reducible exact ih3 _ _ _)
   | (with_reducible exact LeO.refl _)
   | (with_reducible exact LeO.none _)
   | (with_reducible refine LeO.ite ?_ ?_)
   | (with_reducible refine LeO.bind ?_ (fun _ => ?_))
   | exact ih0 _ _ _
   | exact ih1 _ _ _
   | exact ih2 _ _ _ _ _
   | exact ih3 _ _ _
   | exact LeO.none _
   | refine LeO.ite ?_ ?_
   | refine LeO.bind ?_ (fun _ => ?_)
  ·
   intro y0 y1 y2 y3 y4
   unfold colloquyref13_positive.l2
   repeat' first
   | (with_reducible exact ih0 _ _ _)
   | (with_reducible exact ih1 _ _ _)
   | (with_reducible exact ih2 _ _ _ _ _)
   | (with_reducible exact ih3 _ _ _)
   | (with_reducible exact LeO.refl _)
   | (with_reducible exact LeO.none _)
   | (with_reducible refine LeO.ite ?_ ?_)
   | (with_reducible refine LeO.bind ?_ (fun _ => ?_))
   | exact ih0 _ _ _
   | exact ih1 _ _ _
   | exact ih2 _ _ _ _ _
   | exact ih3 _ _ _
   | exact LeO.none _
   | refine LeO.ite ?_ ?_
   | refine LeO.bind ?_ (fun _ => ?_)
  ·
   intro y0 y1 y2
   unfold colloquyref13_positive.j3
   repeat' first
   | (with_reducible exact ih0 _ _ _)
   | (with_reducible exact ih1 _ _ _)
   | (with_reducible exact ih2 _ _ _ _ _)
   | (with_reducible exact ih3 _ _ _)
   | (with_reducible exact LeO.refl _)
   | (with_reducible exact LeO.none _)
   | (with_reducible refine LeO.ite ?_ ?_)
   | (with_reducible refine LeO.bind ?_ (fun _ => ?_))
   | exact ih0 _ _ _
   | exact ih1 _ _ _
   | exact ih2 _ _ _ _ _
   | exact ih3 _ _ _
   | exact LeO.none _
   | refine LeO.ite ?_ ?_
   | refine LeO.bind ?_ (fun _ => ?_)
theorem colloquyref13_positive.mono : ∀ a0 a1 k, LeO (colloquyref13_positive.f k a0 a1) (colloquyref13_positive.f (k + 1) a0 a1) := by
 intro a0 a1 k
 obtain ⟨ih0, ih1, ih2, ih3⟩ := colloquyref13_positive.mono_l k
 unfold colloquyref13_positive.f
 repeat' first
   | (with_reducible exact ih0 _ _ _)
   | (with_reducible exact ih1 _ _ _)
   | (with_reducible exact ih2 _ _ _ _ _)
   | (with_reducible exact ih3 _ _ _)
   | (with_reducible exact LeO.refl _)
   | (with_reducible exact LeO.none _)
   | (with_reducible refine LeO.ite ?_ ?_)
   | (with_reducible refine LeO.bind ?_ (fun _ => ?_))
   | exact ih0 _ _ _
   | exact ih1 _ _ _
   | exact ih2 _ _ _ _ _
   | exact ih3 _ _ _
   | exact LeO.none _
   | refine LeO.ite ?_ ?_
   | refine LeO.bind ?_ (fun _ => ?_)
set_option maxHeartbeats 8000000 in
set_option maxRecDepth 100000 in
theorem colloquyref13_positive.calls (k : Nat) (a0 : Int) (a1 : Int) (r : Int) (w : World) (h : colloquyref13_positive.f k a0 a1 = some r) :
  Calls Try.prog 37 #[.int .i64 a0, .int .i64 a1] w fun e w' => e = .returned (.int .u64 r) ∧ Drawn0 w w' := by
 have H : (colloquyref13_positive.l0 k a0 a1 0) = some r := h
 clear h
 have H' := Aside0.mk H
 clear H
 go_enter Try.func37, Try.ntmps37
 go_wp2
 go_loopg [1, 5] k (fun kq v1 v5 w' => ∃ (x1_1 : Int) (x5_1 : Int), v1 = .int .i64 x1_1 ∧ v5 = .int .i64 x5_1 ∧ Aside0 (colloquyref13_positive.l0 kq a0 x1_1 x5_1 = some r) ∧ Aside0 (kq ≤ k) ∧ Drawn0 w w')
 case atStart => exact ⟨(a1), (0), (by first | rfl | (simp; done) | (simp [*]; done)), (by first | rfl | (simp; done) | (simp [*]; done)), H', ⟨Nat.le_refl _⟩, by repeat (first | exact Drawn0.refl _ | apply Drawn0.step)⟩
 case round =>
  clear H'
  try clear p2
  obtain ⟨x1_1, x5_1, rfl, rfl, HA, HK1, ⟨m1, rfl⟩⟩ := hrel
  cases gk with
  | zero => exact absurd HA.out (by simp [colloquyref13_positive.l0])
  | succ k1 =>
   have H := HA.out
   clear HA
   simp only [colloquyref13_positive.l0] at H
   by_cases c3 : a0 ≥ (wrap64 (2 * x1_1))
   ·
    rw [if_pos c3] at H
    have c3b0 : decide ((wrap64 (2 * x1_1)) ≤ a0) = true := decide_eq_true c3
    clear c3
    have H' := Aside0.mk H
    clear H
    go_wp2
    go_roundg k1
    case measure => have := HK1.out; omega
    case rel => exact ⟨(wrap64 (2 * x1_1)), (wrap64 (x5_1 + 1)), (by first | rfl | (simp; done) | (simp [*]; done)), (by first | rfl | (simp; done) | (simp [*]; done)), H', ⟨by have := HK1.out; omega⟩, by repeat (first | exact Drawn0.refl _ | apply Drawn0.step)⟩
   ·
    rw [if_neg c3] at H
    have c3b0 : decide ((wrap64 (2 * x1_1)) ≤ a0) = false := decide_eq_false c3
    clear c3
    have H' := Aside0.mk H
    clear H
    go_wp2
    go_loopg [0, 5] k1 (fun kq v0 v5 w' => ∃ (x0_2 : Int) (x5_2 : Int), v0 = .int .i64 x0_2 ∧ v5 = .int .i64 x5_2 ∧ Aside0 (colloquyref13_positive.l1 kq x0_2 x1_1 x5_2 = some r) ∧ Aside0 (kq ≤ k1) ∧ Drawn0 w w')
    case atStart => exact ⟨(a0), (x5_1), (by first | rfl | (simp; done) | (simp [*]; done)), (by first | rfl | (simp; done) | (simp [*]; done)), H', ⟨Nat.le_refl _⟩, by repeat (first | exact Drawn0.refl _ | apply Drawn0.step)⟩
    case round =>
     clear H'
     try clear p2
     try clear c3
     try clear c3b0
     try clear p2
     obtain ⟨x0_2, x5_2, rfl, rfl, HA, HK2, ⟨m2, rfl⟩⟩ := hrel
     cases gk with
     | zero => exact absurd HA.out (by simp [colloquyref13_positive.l1])
     | succ k2 =>
      have H := HA.out
      clear HA
      simp only [colloquyref13_positive.l1] at H
      by_cases c4 : x0_2 < x1_1
      ·
       rw [if_pos c4] at H
       have c4b0 : decide (x0_2 < x1_1) = true := decide_eq_true c4
       clear c4
       have H' := Aside0.mk H
       clear H
       go_wp2
       go_roundg k2
       case measure => have := HK1.out; have := HK2.out; omega
       case rel => exact ⟨(wrap64 (2 * x0_2)), (wrap64 (x5_2 - 1)), (by first | rfl | (simp; done) | (simp [*]; done)), (by first | rfl | (simp; done) | (simp [*]; done)), H', ⟨by have := HK1.out; have := HK2.out; omega⟩, by repeat (first | exact Drawn0.refl _ | apply Drawn0.step)⟩
      ·
       rw [if_neg c4] at H
       have c4b0 : decide (x0_2 < x1_1) = false := decide_eq_false c4
       clear c4
       have H' := Aside0.mk H
       clear H
       go_wp2
       go_loopg [0, 6, 7] k2 (fun kq v0 v6 v7 w' => ∃ (x0_3 : Int) (x6_3 : Int) (x7_3 : Int), v0 = .int .i64 x0_3 ∧ v6 = .int .i64 x6_3 ∧ v7 = .int .i64 x7_3 ∧ Aside0 (colloquyref13_positive.l2 kq x0_3 x1_1 x5_2 x6_3 x7_3 = some r) ∧ Aside0 (kq ≤ k2) ∧ Drawn0 w w')
       case atStart => exact ⟨(x0_2), (0), (0), (by first | rfl | (simp; done) | (simp [*]; done)), (by first | rfl | (simp; done) | (simp [*]; done)), (by first | rfl | (simp; done) | (simp [*]; done)), H', ⟨Nat.le_refl _⟩, by repeat (first | exact Drawn0.refl _ | apply Drawn0.step)⟩
       case round =>
        clear H'
        try clear p2
        try clear c3
        try clear c3b0
        try clear c4
        try clear c4b0
        try clear p2
        obtain ⟨x0_3, x6_3, x7_3, rfl, rfl, rfl, HA, HK3, ⟨m3, rfl⟩⟩ := hrel
        cases gk with
        | zero => exact absurd HA.out (by simp [colloquyref13_positive.l2])
        | succ k3 =>
         have H := HA.out
         clear HA
         simp only [colloquyref13_positive.l2] at H
         by_cases c5 : x7_3 < 53
         ·
          rw [if_pos c5] at H
          have c5b0 : decide (x7_3 < 53) = true := decide_eq_true c5
          clear c5
          by_cases c6 : x0_3 ≥ x1_1
          ·
           rw [if_pos c6] at H
           have c6b0 : decide (x1_1 ≤ x0_3) = true := decide_eq_true c6
           clear c6
           have H' := Aside0.mk H
           clear H
           go_wp2
           go_roundg k3
           case measure => have := HK1.out; have := HK2.out; have := HK3.out; omega
           case rel => exact ⟨(wrap64 (2 * (wrap64 (x0_3 - x1_1)))), (wrap64 ((wrap64 (2 * x6_3)) + 1)), (wrap64 (x7_3 + 1)), (by first | rfl | (simp; done) | (simp [*]; done)), (by first | rfl | (simp; done) | (simp [*]; done)), (by first | rfl | (simp; done) | (simp [*]; done)), H', ⟨by have := HK1.out; have := HK2.out; have := HK3.out; omega⟩, by repeat (first | exact Drawn0.refl _ | apply Drawn0.step)⟩
          ·
           rw [if_neg c6] at H
           have c6b0 : decide (x1_1 ≤ x0_3) = false := decide_eq_false c6
           clear c6
           have H' := Aside0.mk H
           clear H
           go_wp2
           go_roundg k3
           case measure => have := HK1.out; have := HK2.out; have := HK3.out; omega
           case rel => exact ⟨(wrap64 (2 * x0_3)), (wrap64 (2 * x6_3)), (wrap64 (x7_3 + 1)), (by first | rfl | (simp; done) | (simp [*]; done)), (by first | rfl | (simp; done) | (simp [*]; done)), (by first | rfl | (simp; done) | (simp [*]; done)), H', ⟨by have := HK1.out; have := HK2.out; have := HK3.out; omega⟩, by repeat (first | exact Drawn0.refl _ | apply Drawn0.step)⟩
         ·
          rw [if_neg c5] at H
          have c5b0 : decide (x7_3 < 53) = false := decide_eq_false c5
          clear c5
          have HC7 := Aside0.mk H
          clear H
          go_upto_region 17 with (fail)
          go_cut [51] (fun v51 wc => ∃ (kq : Nat) (x51_6 : Bool), v51 = .bool x51_6 ∧ Aside0 (colloquyref13_positive.j3 kq x5_2 x6_3 x51_6 = some r) ∧ Aside0 (kq ≤ k3) ∧ Drawn0 w wc)
          case first =>
           have H := HC7.out
           clear HC7
           by_cases c8 : x0_3 > x1_1
           ·
            rw [if_pos c8] at H
            have c8b0 : decide (x1_1 < x0_3) = true := decide_eq_true c8
            clear c8
            (first | rw [c8b0] | (simp only [i64_w, i32_w]; rw [c8b0]) | skip)
            have H' := Aside0.mk H
            clear H
            go_wp2
            go_meet
            case rel => exact ⟨_, (true), (by first | rfl | (simp; done) | (simp [*]; done)), H', ⟨by have := HK1.out; have := HK2.out; have := HK3.out; first | omega | exact Nat.le_refl _⟩, by repeat (first | exact Drawn0.refl _ | apply Drawn0.step)⟩
           ·
            rw [if_neg c8] at H
            have c8b0 : decide (x1_1 < x0_3) = false := decide_eq_false c8
            clear c8
            (first | rw [c8b0] | (simp only [i64_w, i32_w]; rw [c8b0]) | skip)
            by_cases c9 : x0_3 = x1_1
            ·
             rw [if_pos c9] at H
             have c9b0 : (x0_3 == x1_1) = true := beq_iff_eq.mpr c9
             have c9b1 : (x0_3 != x1_1) = false := bne_eq_false_iff_eq.mpr c9
             clear c9
             have H' := Aside0.mk H
             clear H
             go_wp2
             go_meet
             case rel => exact ⟨_, (((Int.tmod x6_3 2) == 1)), (by first | rfl | (simp; done) | (simp [*]; done)), H', ⟨by have := HK1.out; have := HK2.out; have := HK3.out; first | omega | exact Nat.le_refl _⟩, by repeat (first | exact Drawn0.refl _ | apply Drawn0.step)⟩
            ·
             rw [if_neg c9] at H
             have c9b0 : (x0_3 == x1_1) = false := beq_eq_false_iff_ne.mpr c9
             have c9b1 : (x0_3 != x1_1) = true := bne_iff_ne.mpr c9
             have H' := Aside0.mk H
             clear H
             go_wp2
             go_meet
             case rel => exact ⟨_, (false), (by first | rfl | (simp; done) | (simp [*]; done)), H', ⟨by have := HK1.out; have := HK2.out; have := HK3.out; first | omega | exact Nat.le_refl _⟩, by repeat (first | exact Drawn0.refl _ | apply Drawn0.step)⟩
          case rest =>
           clear HC7
           try clear p2
           try clear c3
           try clear c3b0
           try clear c4
           try clear c4b0
           try clear c5
           try clear c5b0
           try clear c6
           try clear c6b0
           try clear p6
           try clear c8
           try clear c8b0
           try clear c9
           try clear c9b0
           try clear c9b1
           try clear p2
           obtain ⟨kq, x51_6, rfl, HA, HJ6, ⟨mc6, rfl⟩⟩ := hcut
           cases kq with
           | zero => exact absurd HA.out (by simp [colloquyref13_positive.j3])
           | succ kj6 =>
            have H := HA.out
            clear HA
            simp only [colloquyref13_positive.j3] at H
            by_cases c10 : x51_6 = true
            ·
             subst c10
             have H1 : (if (wrap64 (x6_3 + 1)) = 9007199254740992 then (some (IntKind.u64.wrap ((IntKind.u64.wrap ((IntKind.u64.wrap (wrap64 ((wrap64 (x5_2 + 1)) + 1023))) * 4503599627370496)) + (IntKind.u64.wrap (wrap64 ((wrap64 (Int.tdiv (wrap64 (x6_3 + 1)) 2)) - 4503599627370496)))))) else (some (IntKind.u64.wrap ((IntKind.u64.wrap ((IntKind.u64.wrap (wrap64 (x5_2 + 1023))) * 4503599627370496)) + (IntKind.u64.wrap (wrap64 ((wrap64 (x6_3 + 1)) - 4503599627370496))))))) = some r := by rw [if_pos rfl] at H; exact H
             clear H
             have H := H1
             clear H1
             by_cases c11 : (wrap64 (x6_3 + 1)) = 9007199254740992
             ·
              rw [if_pos c11] at H
              have c11b0 : ((wrap64 (x6_3 + 1)) == 9007199254740992) = true := beq_iff_eq.mpr c11
              have c11b1 : ((wrap64 (x6_3 + 1)) != 9007199254740992) = false := bne_eq_false_iff_eq.mpr c11
              clear c11
              obtain rfl := Option.some.inj H
              go_wp2
              go_ret
              exact ⟨by first | rfl | (simp; done) | (simp [*]; done), by repeat (first | exact Drawn0.refl _ | apply Drawn0.step)⟩
             ·
              rw [if_neg c11] at H
              have c11b0 : ((wrap64 (x6_3 + 1)) == 9007199254740992) = false := beq_eq_false_iff_ne.mpr c11
              have c11b1 : ((wrap64 (x6_3 + 1)) != 9007199254740992) = true := bne_iff_ne.mpr c11
              obtain rfl := Option.some.inj H
              go_wp2
              go_ret
              exact ⟨by first | rfl | (simp; done) | (simp [*]; done), by repeat (first | exact Drawn0.refl _ | apply Drawn0.step)⟩
            ·
             replace c10 := Bool.eq_false_iff.mpr c10
             subst c10
             have H1 : (if x6_3 = 9007199254740992 then (some (IntKind.u64.wrap ((IntKind.u64.wrap ((IntKind.u64.wrap (wrap64 ((wrap64 (x5_2 + 1)) + 1023))) * 4503599627370496)) + (IntKind.u64.wrap (wrap64 ((wrap64 (Int.tdiv x6_3 2)) - 4503599627370496)))))) else (some (IntKind.u64.wrap ((IntKind.u64.wrap ((IntKind.u64.wrap (wrap64 (x5_2 + 1023))) * 4503599627370496)) + (IntKind.u64.wrap (wrap64 (x6_3 - 4503599627370496))))))) = some r := by rw [if_neg (show ¬ (false = true) by decide)] at H; exact H
             clear H
             have H := H1
             clear H1
             by_cases c12 : x6_3 = 9007199254740992
             ·
              rw [if_pos c12] at H
              have c12b0 : (x6_3 == 9007199254740992) = true := beq_iff_eq.mpr c12
              have c12b1 : (x6_3 != 9007199254740992) = false := bne_eq_false_iff_eq.mpr c12
              clear c12
              obtain rfl := Option.some.inj H
              go_wp2
              go_ret
              exact ⟨by first | rfl | (simp; done) | (simp [*]; done), by repeat (first | exact Drawn0.refl _ | apply Drawn0.step)⟩
             ·
              rw [if_neg c12] at H
              have c12b0 : (x6_3 == 9007199254740992) = false := beq_eq_false_iff_ne.mpr c12
              have c12b1 : (x6_3 != 9007199254740992) = true := bne_iff_ne.mpr c12
              obtain rfl := Option.some.inj H
              go_wp2
              go_ret
              exact ⟨by first | rfl | (simp; done) | (simp [*]; done), by repeat (first | exact Drawn0.refl _ | apply Drawn0.step)⟩

end Go.Proofs.Ytlobedghenflfaa.P
