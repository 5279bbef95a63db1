/- The plain side of the law ScoreDivides: the document's long division comes to the nearest word. -/
import Derived.Test.YtlobedghenflfaaPx0
import Derived.Test.YtlobedghenflfaaPx2
import Derived.Test.YtlobedghenflfaaPx3
import Derived.Test.YtlobedghenflfaaScore
namespace Go.Proofs.Ytlobedghenflfaa.Pure
open Go.RowKit Go.Proofs.Ytlobedghenflfaa.P Go.Proofs.YtlobedghenflfaaW.PrintWords Go.Proofs.YtlobedghenflfaaW.PrintLast
set_option linter.unusedVariables false
theorem wrapU_id (x : Int) (h0 : 0 ≤ x) (h1 : x < 18446744073709551616) : IntKind.u64.wrap x = x := by
  show x % 18446744073709551616 = x
  exact Int.emod_eq_of_lt h0 h1
/-- the last step: the significand M behind the exponent e -/
theorem put_eq (e M : Int) (he : -100 ≤ e) (he2 : e ≤ 100) (h1 : 4503599627370496 ≤ M) (h2 : M ≤ 9007199254740992) :
    (if M = 9007199254740992 then some (IntKind.u64.wrap ((IntKind.u64.wrap ((IntKind.u64.wrap (wrap64 ((wrap64 (e + 1)) + 1023))) * 4503599627370496)) + (IntKind.u64.wrap (wrap64 ((wrap64 (Int.tdiv M 2)) - 4503599627370496))))) else some (IntKind.u64.wrap ((IntKind.u64.wrap ((IntKind.u64.wrap (wrap64 (e + 1023))) * 4503599627370496)) + (IntKind.u64.wrap (wrap64 (M - 4503599627370496)))))) = some ((e + 1022) * 4503599627370496 + M) := by
  by_cases h : M = 9007199254740992
  · rw [if_pos h]
    subst h
    have e1 : wrap64 (e + 1) = e + 1 := by unfold wrap64; omega
    have e2 : wrap64 (e + 1 + 1023) = e + 1 + 1023 := by unfold wrap64; omega
    have e3 : wrap64 (wrap64 (Int.tdiv 9007199254740992 2) - 4503599627370496) = 0 := by
      have t : Int.tdiv 9007199254740992 2 = 4503599627370496 := rfl
      have t2 : wrap64 4503599627370496 = 4503599627370496 := by unfold wrap64; omega
      rw [t, t2]; unfold wrap64; omega
    rw [e1, e2, e3, wrapU_id (e + 1 + 1023) (by omega) (by omega), wrapU_id ((e + 1 + 1023) * 4503599627370496) (by omega) (by omega), wrapU_id 0 (by omega) (by omega), wrapU_id _ (by omega) (by omega)]
    congr 1; omega
  · rw [if_neg h]
    have e1 : wrap64 (e + 1023) = e + 1023 := by unfold wrap64; omega
    have e2 : wrap64 (M - 4503599627370496) = M - 4503599627370496 := by unfold wrap64; omega
    rw [e1, e2, wrapU_id (e + 1023) (by omega) (by omega), wrapU_id ((e + 1023) * 4503599627370496) (by omega) (by omega), wrapU_id (M - 4503599627370496) (by omega) (by omega), wrapU_id _ (by omega) (by omega)]
    congr 1; omega
theorem j3_ev (e : Int) (m : Nat) (c : Bool) (he : -100 ≤ e) (he2 : e ≤ 100) (h1 : 2 ^ 52 ≤ m) (h2 : m < 2 ^ 53) :
    Ev (fun k => colloquyref13_positive.j3 k e (m : Int) c) ((e + 1022) * 4503599627370496 + ((m + (if c = true then 1 else 0) : Nat) : Int)) := by
  refine Ev.step (f := fun _ => some ((e + 1022) * 4503599627370496 + ((m + (if c = true then 1 else 0) : Nat) : Int))) (fun k => ?_) (Ev.now _)
  rw [colloquyref13_positive.j3]
  cases c with
  | true =>
    have w : wrap64 ((m : Int) + 1) = (m : Int) + 1 := by unfold wrap64; omega
    rw [if_pos rfl, w, put_eq e ((m : Int) + 1) he he2 (by omega) (by omega), if_pos rfl]; rfl
  | false =>
    rw [if_neg (by simp), put_eq e (m : Int) he he2 (by omega) (by omega), if_neg (by simp)]; rfl
theorem pow53 (A : Nat) : A * 2 ^ 53 = 2 * (A * 2 ^ 52) := by omega
theorem pow53' (B : Nat) : 2 * B * 2 ^ 52 = 2 ^ 53 * B := by omega
theorem wneg (A : Int) (h : A < 0) (hc : A.natAbs ≤ 2 ^ 53) : wrap64 (-A) = (A.natAbs : Int) := by unfold wrap64; omega
theorem wpos (A : Int) (h : ¬ A < 0) : A = (A.natAbs : Int) := by omega
theorem dbl1 (m : Nat) (h : m < 2 ^ 53) : wrap64 (2 * (m : Int)) = ((2 * m : Nat) : Int) := by unfold wrap64; omega
theorem dbl2 (m : Nat) (h : m < 2 ^ 53) : wrap64 (((2 * m : Nat) : Int) + 1) = ((2 * m + 1 : Nat) : Int) := by unfold wrap64; omega
theorem sub1 (a B : Nat) (h : B ≤ a) (ha : a < 2 ^ 60) : wrap64 ((a : Int) - B) = ((a - B : Nat) : Int) := by unfold wrap64; omega
theorem dbl3 (a : Nat) (h : a < 2 ^ 60) : wrap64 (2 * (a : Int)) = ((2 * a : Nat) : Int) := by unfold wrap64; omega
theorem inc1 (i : Nat) (h : i < 60) : wrap64 ((i : Int) + 1) = ((i + 1 : Nat) : Int) := by unfold wrap64; omega
theorem half (A B m a : Nat) (hm : m * (2 * B) + a = A * 2 ^ 53) : ∃ r, a = 2 * r ∧ A * 2 ^ 52 = B * m + r := by
  rw [pow53, show m * (2 * B) = 2 * (B * m) by rw [Nat.mul_comm B m]; exact Nat.mul_left_comm _ _ _] at hm
  generalize A * 2 ^ 52 = Y at *
  generalize B * m = X at *
  exact ⟨Y - X, by omega, by omega⟩
theorem stepA (m B a : Nat) (h : B ≤ a) : (2 * m + 1) * (2 * B) + 2 * (a - B) = 2 * (m * (2 * B) + a) := by
  rw [Nat.add_mul, Nat.one_mul, Nat.mul_assoc]
  generalize m * (2 * B) = X
  omega
theorem stepB (m B a : Nat) : (2 * m) * (2 * B) + 2 * a = 2 * (m * (2 * B) + a) := by
  rw [Nat.mul_assoc, Nat.mul_add]
theorem m_lt (A B m a i : Nat) (hi : i ≤ 53) (h2 : A < 2 * B) (hm : m * (2 * B) + a = A * 2 ^ i) : m < 2 ^ 53 := by
  have t1 : m * (2 * B) ≤ A * 2 ^ i := by rw [← hm]; exact Nat.le_add_right _ _
  have t2 : A * 2 ^ i < 2 * B * 2 ^ i := Nat.mul_lt_mul_of_pos_right h2 (Nat.pow_pos (by decide))
  have t3 : (2 : Nat) ^ i ≤ 2 ^ 53 := Nat.pow_le_pow_right (by decide) hi
  rw [Nat.mul_comm (2 * B)] at t2
  have t5 : m < 2 ^ i := Nat.lt_of_mul_lt_mul_right (Nat.lt_of_le_of_lt t1 t2)
  exact Nat.lt_of_lt_of_le t5 t3
theorem l2_ev (A B : Nat) (e : Int) (he : -100 ≤ e) (he2 : e ≤ 100) (hB : 0 < B) (hB2 : B ≤ 2 ^ 54) (h1 : B ≤ A) (h2 : A < 2 * B) :
    ∀ (d i m a : Nat), i + d = 53 → m * (2 * B) + a = A * 2 ^ i → a < 2 * B → Ev (fun k => colloquyref13_positive.l2 k (a : Int) (B : Int) e (m : Int) (i : Int)) ((e + 1022) * 4503599627370496 + (Fl.rne (A * 2 ^ 52) B : Nat)) := by
  intro d
  induction d with
  | zero =>
    intro i m a hi hm ha
    have hi' : i = 53 := by omega
    subst hi'
    obtain ⟨r, rfl, hN⟩ := half A B m a hm
    clear hm
    have d1 : A * 2 ^ 52 / B = m := by
      rw [hN, Nat.mul_add_div hB, Nat.div_eq_of_lt (by omega)]; rfl
    have d2 : A * 2 ^ 52 % B = r := by rw [hN, Nat.mul_add_mod, Nat.mod_eq_of_lt (by omega)]
    have m1 : 2 ^ 52 ≤ m := by
      rw [← d1, Nat.le_div_iff_mul_le hB, Nat.mul_comm]
      exact Nat.mul_le_mul_right _ h1
    have m2 : m < 2 ^ 53 := by
      rw [← d1, Nat.div_lt_iff_lt_mul hB]
      have : A * 2 ^ 52 < 2 * B * 2 ^ 52 := Nat.mul_lt_mul_of_pos_right h2 (by decide)
      rw [pow53'] at this; exact this
    have key : ∀ c : Bool, (c = true ↔ (B < 2 * r ∨ (2 * r = B ∧ m % 2 = 1))) → (fun n : Nat => (n : Int)) (m + (if c = true then 1 else 0)) = (Fl.rne (A * 2 ^ 52) B : Nat) := by
      intro c hc
      unfold Fl.rne
      rw [d1, d2]
      simp only [hc]
    have step : ∀ (c : Bool), (c = true ↔ (B < 2 * r ∨ (2 * r = B ∧ m % 2 = 1))) → Ev (fun k => colloquyref13_positive.j3 k e (m : Int) c) ((e + 1022) * 4503599627370496 + (Fl.rne (A * 2 ^ 52) B : Nat)) := by
      intro c hc
      have := j3_ev e m c he he2 m1 m2
      rw [← key c hc]; exact this
    by_cases c1 : ((2 * r : Nat) : Int) > (B : Int)
    · refine Ev.step (f := fun k => colloquyref13_positive.j3 k e (m : Int) true) (fun k => ?_) (step true (by simp; omega))
      rw [colloquyref13_positive.l2, if_neg (by omega), if_pos c1]
    · by_cases c2 : ((2 * r : Nat) : Int) = (B : Int)
      · refine Ev.step (f := fun k => colloquyref13_positive.j3 k e (m : Int) ((Int.tmod (m : Int) 2) == 1)) (fun k => ?_) (step _ ?_)
        · rw [colloquyref13_positive.l2, if_neg (by omega), if_neg c1, if_pos c2]
        · have e3 : Int.tmod (m : Int) 2 = ((m % 2 : Nat) : Int) := rfl
          rw [e3, beq_iff_eq]; omega
      · refine Ev.step (f := fun k => colloquyref13_positive.j3 k e (m : Int) false) (fun k => ?_) (step false (by simp; omega))
        rw [colloquyref13_positive.l2, if_neg (by omega), if_neg c1, if_neg c2]
  | succ d ih =>
    intro i m a hi hm ha
    have mb := m_lt A B m a i (by omega) h2 hm
    have hp : 2 * (m * (2 * B) + a) = A * 2 ^ (i + 1) := by rw [hm, Nat.pow_succ, Nat.mul_comm 2, Nat.mul_assoc]
    clear hm
    have wi := inc1 i (by omega)
    have a60 : a < 2 ^ 60 := by omega
    have i53 : (i : Int) < 53 := by omega
    have i1 : i + 1 + d = 53 := by omega
    have hA := fun h => stepA m B a h
    have hB' := stepB m B a
    rw [hp] at hB'
    simp only [hp] at hA
    clear hp
    by_cases c : (a : Int) ≥ (B : Int)
    · have cn : B ≤ a := by omega
      have an : 2 * (a - B) < 2 * B := by omega
      have ab : a - B < 2 ^ 60 := by omega
      refine Ev.step (f := fun k => colloquyref13_positive.l2 k ((2 * (a - B) : Nat) : Int) (B : Int) e ((2 * m + 1 : Nat) : Int) ((i + 1 : Nat) : Int)) (fun k => ?_) (ih (i + 1) (2 * m + 1) (2 * (a - B)) i1 (hA cn) an)
      rw [colloquyref13_positive.l2, if_pos i53, if_pos c, wi, sub1 a B cn a60, dbl3 (a - B) ab, dbl1 m mb, dbl2 m mb]
    · have an : 2 * a < 2 * B := by omega
      refine Ev.step (f := fun k => colloquyref13_positive.l2 k ((2 * a : Nat) : Int) (B : Int) e ((2 * m : Nat) : Int) ((i + 1 : Nat) : Int)) (fun k => ?_) (ih (i + 1) (2 * m) (2 * a) i1 hB' an)
      rw [colloquyref13_positive.l2, if_pos i53, if_neg c, wi, dbl3 a a60, dbl1 m mb]
/-- what the last two loops come to -/
theorem l1_ev (B : Nat) (hB : 0 < B) (hB2 : B ≤ 2 ^ 53) : ∀ (t A : Nat) (e : Int), B ≤ A * 2 ^ t → 0 < A → A < 2 * B → -100 ≤ e - t → e ≤ 100 →
    ∃ u : Nat, u ≤ t ∧ B ≤ A * 2 ^ u ∧ A * 2 ^ u < 2 * B ∧ Ev (fun k => colloquyref13_positive.l1 k (A : Int) (B : Int) e) ((e - u + 1022) * 4503599627370496 + (Fl.rne (A * 2 ^ u * 2 ^ 52) B : Nat)) := by
  intro t
  have done : ∀ (A : Nat) (e : Int), B ≤ A → A < 2 * B → -100 ≤ e → e ≤ 100 → Ev (fun k => colloquyref13_positive.l1 k (A : Int) (B : Int) e) ((e + 1022) * 4503599627370496 + (Fl.rne (A * 2 ^ 52) B : Nat)) := by
    intro A e h1 h2 h3 h4
    refine Ev.step (f := fun k => colloquyref13_positive.l2 k (A : Int) (B : Int) e 0 0) (fun k => ?_) ?_
    · rw [colloquyref13_positive.l1, if_neg (by omega)]
    · exact l2_ev A B e h3 h4 hB (by omega) h1 h2 53 0 0 A (by omega) (by rw [Nat.zero_mul, Nat.pow_zero, Nat.mul_one, Nat.zero_add]) h2
  induction t with
  | zero =>
    intro A e h0 hA hA2 he he2
    rw [Nat.pow_zero, Nat.mul_one] at h0
    refine ⟨0, Nat.le_refl _, by rw [Nat.pow_zero, Nat.mul_one]; exact h0, by rw [Nat.pow_zero, Nat.mul_one]; exact hA2, ?_⟩
    have := done A e h0 hA2 (by omega) he2
    rw [Nat.pow_zero, Nat.mul_one, show e - ((0 : Nat) : Int) = e by omega]; exact this
  | succ t ih =>
    intro A e h0 hA hA2 he he2
    rcases Nat.lt_or_ge A B with hlt | hge
    · have h0' : B ≤ 2 * A * 2 ^ t := by
        rw [Nat.pow_succ] at h0
        rw [Nat.mul_comm 2 A, Nat.mul_assoc, Nat.mul_comm 2]; exact h0
      obtain ⟨u, u0, u1, u2, u3⟩ := ih (2 * A) (e - 1) h0' (by omega) (by omega) (by omega) (by omega)
      have hu : 2 * A * 2 ^ u = A * 2 ^ (u + 1) := by rw [Nat.pow_succ, Nat.mul_comm 2 A, Nat.mul_assoc, Nat.mul_comm 2]
      rw [hu] at u1 u2 u3
      refine ⟨u + 1, by omega, u1, u2, ?_⟩
      rw [show e - ((u + 1 : Nat) : Int) = e - 1 - u by omega]
      refine Ev.step (f := fun k => colloquyref13_positive.l1 k ((2 * A : Nat) : Int) (B : Int) (e - 1)) (fun k => ?_) u3
      have w1 : wrap64 (2 * (A : Int)) = ((2 * A : Nat) : Int) := by unfold wrap64; omega
      have w2 : wrap64 (e - 1) = e - 1 := by unfold wrap64; omega
      rw [colloquyref13_positive.l1, if_pos (by omega), w1, w2]
    · refine ⟨0, by omega, by rw [Nat.pow_zero, Nat.mul_one]; exact hge, by rw [Nat.pow_zero, Nat.mul_one]; exact hA2, ?_⟩
      have := done A e hge hA2 (by omega) he2
      rw [Nat.pow_zero, Nat.mul_one, show e - ((0 : Nat) : Int) = e by omega]; exact this
/-- the first loop: the divisor is doubled as long as it may be -/
theorem l0_ev (A : Nat) (hA : A ≤ 2 ^ 53) : ∀ (t B : Nat) (e : Int), A < 2 * (B * 2 ^ t) → 0 < B → B ≤ 2 ^ 53 → -100 ≤ e → e + t ≤ 100 →
    ∃ v : Nat, v ≤ t ∧ A < 2 * (B * 2 ^ v) ∧ B * 2 ^ v ≤ 2 ^ 53 ∧ ∀ X : Int, Ev (fun k => colloquyref13_positive.l1 k (A : Int) ((B * 2 ^ v : Nat) : Int) (e + v)) X → Ev (fun k => colloquyref13_positive.l0 k (A : Int) (B : Int) e) X := by
  intro t
  have done : ∀ (B : Nat) (e : Int), A < 2 * B → B ≤ 2 ^ 53 → ∀ X : Int, Ev (fun k => colloquyref13_positive.l1 k (A : Int) (B : Int) e) X → Ev (fun k => colloquyref13_positive.l0 k (A : Int) (B : Int) e) X := by
    intro B e h1 h2 X hX
    refine Ev.step (f := fun k => colloquyref13_positive.l1 k (A : Int) (B : Int) e) (fun k => ?_) hX
    have w1 : wrap64 (2 * (B : Int)) = ((2 * B : Nat) : Int) := by unfold wrap64; omega
    rw [colloquyref13_positive.l0, w1, if_neg (by omega)]
  induction t with
  | zero =>
    intro B e h0 hB hB2 he he2
    rw [Nat.pow_zero, Nat.mul_one] at h0
    refine ⟨0, Nat.le_refl _, by rw [Nat.pow_zero, Nat.mul_one]; exact h0, by rw [Nat.pow_zero, Nat.mul_one]; exact hB2, fun X hX => ?_⟩
    rw [Nat.pow_zero, Nat.mul_one, show e + ((0 : Nat) : Int) = e by omega] at hX
    exact done B e h0 hB2 X hX
  | succ t ih =>
    intro B e h0 hB hB2 he he2
    rcases Nat.lt_or_ge A (2 * B) with hlt | hge
    · refine ⟨0, by omega, by rw [Nat.pow_zero, Nat.mul_one]; exact hlt, by rw [Nat.pow_zero, Nat.mul_one]; exact hB2, fun X hX => ?_⟩
      rw [Nat.pow_zero, Nat.mul_one, show e + ((0 : Nat) : Int) = e by omega] at hX
      exact done B e hlt hB2 X hX
    · have h0' : A < 2 * (2 * B * 2 ^ t) := by
        rw [Nat.pow_succ] at h0
        rw [Nat.mul_comm 2 B, Nat.mul_assoc B 2, Nat.mul_comm 2 (2 ^ t)]; exact h0
      obtain ⟨v, v0, v1, v2, v3⟩ := ih (2 * B) (e + 1) h0' (by omega) (by omega) (by omega) (by omega)
      have hv : 2 * B * 2 ^ v = B * 2 ^ (v + 1) := by rw [Nat.pow_succ, Nat.mul_comm 2 B, Nat.mul_assoc, Nat.mul_comm 2]
      rw [hv] at v1 v2 v3
      refine ⟨v + 1, by omega, v1, v2, fun X hX => ?_⟩
      rw [show e + ((v + 1 : Nat) : Int) = e + 1 + v by omega] at hX
      refine Ev.step (f := fun k => colloquyref13_positive.l0 k (A : Int) ((2 * B : Nat) : Int) (e + 1)) (fun k => ?_) (v3 X hX)
      have w1 : wrap64 (2 * (B : Int)) = ((2 * B : Nat) : Int) := by unfold wrap64; omega
      have w2 : wrap64 (e + 1) = e + 1 := by unfold wrap64; omega
      rw [colloquyref13_positive.l0, w1, if_pos (by omega), w2]
theorem scale2 (a b X Y Z : Nat) : a * X * Y * b * Z = a * (b * Z) * (X * Y) := by ac_rfl
/-- the long division comes to the nearest place on the ladder -/
theorem positive_ev (a b : Nat) (ha : 0 < a) (ha2 : a ≤ 2 ^ 53) (hb : 0 < b) (hb2 : b ≤ 2 ^ 53) : ∃ R : Nat, Fl.IsR a b R ∧ R < Fl.infR ∧ Ev (fun k => colloquyref13_positive.f k (a : Int) (b : Int)) (R : Int) := by
  have hbig : a < 2 * (b * 2 ^ 53) := by
    have : 1 * 2 ^ 53 ≤ b * 2 ^ 53 := Nat.mul_le_mul_right _ hb
    omega
  obtain ⟨v, v0, v1, v2, v3⟩ := l0_ev a ha2 53 b 0 hbig hb hb2 (by omega) (by omega)
  have hB : 0 < b * 2 ^ v := Nat.mul_pos hb (Nat.pow_pos (by decide))
  have hbig2 : b * 2 ^ v ≤ a * 2 ^ 53 := by
    have : 1 * 2 ^ 53 ≤ a * 2 ^ 53 := Nat.mul_le_mul_right _ ha
    omega
  obtain ⟨u, u0, u1, u2, u3⟩ := l1_ev (b * 2 ^ v) hB v2 53 a (0 + v) hbig2 ha v1 (by omega) (by omega)
  have n1 : 2 ^ 52 * (b * 2 ^ v) ≤ a * 2 ^ u * 2 ^ 52 := by rw [Nat.mul_comm]; exact Nat.mul_le_mul_right _ u1
  have n2 : a * 2 ^ u * 2 ^ 52 < 2 ^ 53 * (b * 2 ^ v) := by
    have := Nat.mul_lt_mul_of_pos_right u2 (show 0 < 2 ^ 52 by decide)
    have e2 : 2 * (b * 2 ^ v) * 2 ^ 52 = 2 ^ 53 * (b * 2 ^ v) := by omega
    rw [← e2]; exact this
  obtain ⟨r1, r2⟩ := Fl.IsR_bounds hB n1 n2
  refine ⟨(1074 + v - (u + 52)) * 2 ^ 52 + Fl.rne (a * 2 ^ u * 2 ^ 52) (b * 2 ^ v), ⟨a * 2 ^ u * 2 ^ 52, b * 2 ^ v, v, u + 52, hB, n1, n2, ?_, by omega, rfl⟩, ?_, ?_⟩
  · rw [Nat.pow_add]; exact scale2 a b (2 ^ u) (2 ^ 52) (2 ^ v)
  · exact Fl.inf_lem _ _ (by omega) r2
  · have := v3 _ u3
    have e3 : (0 + (v : Int) - u + 1022) * 4503599627370496 + ((Fl.rne (a * 2 ^ u * 2 ^ 52) (b * 2 ^ v) : Nat) : Int) = (((1074 + v - (u + 52)) * 2 ^ 52 + Fl.rne (a * 2 ^ u * 2 ^ 52) (b * 2 ^ v) : Nat) : Int) := by
      generalize Fl.rne (a * 2 ^ u * 2 ^ 52) (b * 2 ^ v) = K
      omega
    rw [e3] at this
    exact this
theorem bound_eq (n : Int) : colloquyref13_bound.f n = some (Fl.clampI n) := by
  unfold colloquyref13_bound.f Fl.clampI
  by_cases h1 : n > 9007199254740992
  · rw [if_pos h1]; congr 1; omega
  · rw [if_neg h1]
    by_cases h2 : n < -9007199254740992
    · rw [if_pos h2]; congr 1; omega
    · rw [if_neg h2]; congr 1; omega
/-- the document's quotient is the program's -/
theorem refQuot_ev (a b : Int) : Ev (fun k => colloquyref13_Quotient.f k a b) ((Fl.quotW a b : Nat) : Int) := by
  have za := Fl.clamp_zero a
  have zb := Fl.clamp_zero b
  have na := Fl.clamp_neg a
  have nb := Fl.clamp_neg b
  have ca := Fl.clamp_abs a
  have cb := Fl.clamp_abs b
  have sw : ∀ s : Bool, ∀ R : Nat, ((Ieee.double.word s R : Nat) : Int) = (if s = true then 9223372036854775808 else 0) + (R : Int) := by
    intro s R
    cases s
    · show ((R : Nat) : Int) = 0 + (R : Int); omega
    · show ((2 ^ 63 + R : Nat) : Int) = 9223372036854775808 + (R : Int); omega
  unfold colloquyref13_Quotient.f
  simp only [bound_eq, bs]
  have hs := (Fl.quotW_spec a b).2
  generalize hA : Fl.clampI a = A at *
  generalize hB : Fl.clampI b = B at *
  -- behind the test for 0 / 0
  have rest : ¬ (A = 0 ∧ B = 0) → Ev (fun k => colloquyref13_Quotient.j0 k A B false) ((Fl.quotW a b : Nat) : Int) := by
    intro h00
    refine Ev.step (f := fun k => colloquyref13_Quotient.j1 k A B (if (decide (A < 0) ^^ decide (B < 0)) = true then 9223372036854775808 else 0)) (fun k => ?_) ?_
    · rw [colloquyref13_Quotient.j0, if_neg (by simp)]
      cases decide (A < 0) <;> cases decide (B < 0) <;> rfl
    have hsg : (decide (A < 0) ^^ decide (B < 0)) = (decide (a < 0) ^^ decide (b < 0)) := by simp only [na, nb]
    rw [hsg]
    generalize hS : (if (decide (a < 0) ^^ decide (b < 0)) = true then (9223372036854775808 : Int) else 0) = S
    have hS2 : 0 ≤ S ∧ S ≤ 9223372036854775808 := by rw [← hS]; split <;> omega
    refine Ev.step (f := fun k => colloquyref13_Quotient.j2 k (A.natAbs : Int) B S) (fun k => ?_) ?_
    · rw [colloquyref13_Quotient.j1]
      by_cases h : A < 0
      · rw [if_pos h, wneg A h ca]
      · rw [if_neg h, ← wpos A h]
    refine Ev.step (f := fun k => colloquyref13_Quotient.j3 k (A.natAbs : Int) (B.natAbs : Int) S) (fun k => ?_) ?_
    · rw [colloquyref13_Quotient.j2]
      by_cases h : B < 0
      · rw [if_pos h, wneg B h cb]
      · rw [if_neg h, ← wpos B h]
    rcases hs with ⟨hb, ha, e⟩ | ⟨hb, ha, e⟩ | ⟨hb, ha, e⟩ | ⟨ha, hb, R, e, i, r1, r2⟩
    · exact absurd ⟨za.2 ha, zb.2 hb⟩ h00
    · refine Ev.step (f := fun _ => some ((Fl.quotW a b : Nat) : Int)) (fun k => ?_) (Ev.now _)
      have hB0 := zb.2 hb
      rw [colloquyref13_Quotient.j3, if_pos (by omega), e, sw, wrapU_id _ (by omega) (by omega)]
      rw [decide_eq_false (by omega : ¬ b < 0), Bool.xor_false] at hS
      rw [hS]; rfl
    · refine Ev.step (f := fun _ => some ((Fl.quotW a b : Nat) : Int)) (fun k => ?_) (Ev.now _)
      have hA0 := za.2 ha
      have hB0 : B ≠ 0 := fun h => hb (zb.1 h)
      rw [colloquyref13_Quotient.j3, if_neg (by omega), if_pos (by omega), e, sw]
      rw [decide_eq_false (by omega : ¬ a < 0), Bool.false_xor] at hS
      rw [hS]; congr 1; omega
    · have hA0 : A ≠ 0 := fun h => ha (za.1 h)
      have hB0 : B ≠ 0 := fun h => hb (zb.1 h)
      obtain ⟨Q, q1, q2, q3⟩ := positive_ev A.natAbs B.natAbs (by omega) ca (by omega) cb
      have hQ : Q = R := Fl.IsR_unique (by omega) (by omega) rfl q1 i
      subst hQ
      have hw : ((Fl.quotW a b : Nat) : Int) = IntKind.u64.wrap (S + Q) := by
        have hq : Q < 2 ^ 63 := by unfold Fl.infR at q2; omega
        rw [e, sw, hS, wrapU_id _ (by omega) (by omega)]
      rw [hw]
      obtain ⟨K, hK⟩ := q3
      refine ⟨K + 1, fun k hk => ?_⟩
      obtain ⟨m, rfl⟩ : ∃ m, k = m + 1 := ⟨k - 1, by omega⟩
      have h := hK m (by omega)
      simp only at h
      show colloquyref13_Quotient.j3 (m + 1) _ _ _ = _
      rw [colloquyref13_Quotient.j3, if_neg (by omega), if_neg (by omega), h]
      rfl
  by_cases hA0 : A = 0
  · by_cases hB0 : B = 0
    · have e : Fl.quotW a b = 9221120237041090560 := by
        rcases hs with ⟨_, _, e⟩ | ⟨_, ha, _⟩ | ⟨hb, _, _⟩ | ⟨ha, _, _⟩
        · exact e
        · exact absurd (za.1 hA0) ha
        · exact absurd (zb.1 hB0) hb
        · exact absurd (za.1 hA0) ha
      rw [e]
      refine Ev.step (f := fun _ => some 9221120237041090560) (fun k => ?_) (Ev.now _)
      rw [if_pos hA0, colloquyref13_Quotient.j0, if_pos (by rw [beq_iff_eq]; exact hB0)]
    · have := rest (fun h => hB0 h.2)
      have e2 : (B == 0) = false := beq_eq_false_iff_ne.2 hB0
      simp only [if_pos hA0, e2]
      exact this
  · have := rest (fun h => hA0 h.1)
    simp only [if_neg hA0]
    exact this
theorem quot_one (a : Int) (ha : a ≠ 0) : Fl.quotW a 1 = Fl.wholeW a := by
  have hc : Fl.wholeW a = Fl.wholeW (Fl.clampI a) := by
    unfold Fl.wholeW; rw [Fl.clamp_id (Fl.clampI a) (by unfold Fl.clampI; omega) (by unfold Fl.clampI; omega)]
  have za := Fl.clamp_zero a
  have na := Fl.clamp_neg a
  have ca := Fl.clamp_abs a
  rcases (Fl.quotW_spec a 1).2 with h | h | h | ⟨_, _, R, e, i, r1, r2⟩
  · omega
  · omega
  · omega
  · rcases Fl.wholeW_spec (Fl.clampI a) (by omega) (by omega) with ⟨h, _⟩ | ⟨h, S, e2, v, s1, s2⟩
    · exact absurd (za.1 h) ha
    · have hi := Fl.IsR_V S s1
      rw [v] at hi
      have hc1 : (Fl.clampI 1).natAbs = 1 := rfl
      rw [hc1] at i
      have hu := Fl.IsR_unique (by omega) Fl.Uf_pos (by rw [Nat.mul_one]) i hi
      rw [e, hc, e2, hu]
      simp only [na]
      congr 1
      cases decide (a < 0) <;> rfl
theorem ScoreDivides : colloquylaw13_ScoreDivides.Pure := by
  intro a b _ _
  refine Ev.rounds ?_
  obtain ⟨K1, h1⟩ := refQuot_ev a b
  obtain ⟨K2, h2⟩ := refQuot_ev a 1
  refine ⟨K1 + K2, fun k hk => ?_⟩
  have e1 := h1 k (by omega)
  have e2 := h2 k (by omega)
  simp only at e1 e2
  show colloquylaw13_ScoreDivides.f k a b = _
  unfold colloquylaw13_ScoreDivides.f colloquyref13_Of.f
  rw [awake_eq, quot_f, of_f, e1, e2]
  simp only [bs, if_true]
  by_cases ha : a = 0
  · subst ha
    rw [if_pos rfl]; rfl
  · rw [if_neg ha, quot_one a ha]
    simp only [bs, beq_self_eq_true]
end Go.Proofs.Ytlobedghenflfaa.Pure
