/- What float64 words come to, in plain numbers: the ladder of words, whole numbers, quotients, floors, and how two compare; no condition but each law's own. -/
import Ieee.Arith
import GoSem.Core.Float
import Derived.Laws.FloatBits
import Derived.Laws.FloatArith
namespace Go.Proofs.Ytlobedghenflfaa.Fl
open Ieee
/-- N / D to the nearest whole number, and to the even one between two -/
def rne (N D : Nat) : Nat := N / D + (if D < 2 * (N % D) ∨ (2 * (N % D) = D ∧ N / D % 2 = 1) then 1 else 0)
theorem rne_cases (N D : Nat) (hD : 0 < D) : ∃ q r, N = D * q + r ∧ r < D ∧ N / D = q ∧ N % D = r := ⟨N / D, N % D, (Nat.div_add_mod N D).symm, Nat.mod_lt _ hD, rfl, rfl⟩
theorem rne_mono (N D M E : Nat) (hD : 0 < D) (hE : 0 < E) (h : N * E ≤ M * D) : rne N D ≤ rne M E := by
  obtain ⟨q, r, hN, hr, e1, e2⟩ := rne_cases N D hD
  obtain ⟨p, s, hM, hs, e3, e4⟩ := rne_cases M E hE
  unfold rne
  rw [e1, e2, e3, e4]
  subst hN hM
  have hqp : q ≤ p := by
    rcases Nat.lt_or_ge p q with hlt | hge
    · exfalso
      have h1 : D * E * (p + 1) ≤ D * E * q := Nat.mul_le_mul_left _ hlt
      have h2 : s * D < E * D := Nat.mul_lt_mul_of_pos_right hs hD
      have h3 : (D * q + r) * E = D * E * q + r * E := by rw [Nat.add_mul, Nat.mul_right_comm]
      have h4 : (E * p + s) * D = D * E * p + s * D := by rw [Nat.add_mul, Nat.mul_right_comm, Nat.mul_comm E D]
      rw [h3, h4] at h
      rw [Nat.mul_add, Nat.mul_one] at h1
      have h5 : E * D = D * E := Nat.mul_comm _ _
      omega
    · exact hge
  rcases Nat.lt_or_ge q p with hlt | hge
  · split <;> split <;> omega
  · have : q = p := by omega
    subst this
    have h3 : (D * q + r) * E = D * E * q + r * E := by rw [Nat.add_mul, Nat.mul_right_comm]
    have h4 : (E * q + s) * D = D * E * q + s * D := by rw [Nat.add_mul, Nat.mul_right_comm, Nat.mul_comm E D]
    rw [h3, h4] at h
    have h5 : r * E ≤ s * D := by omega
    split
    · next hc =>
      rw [if_pos]
      · exact Nat.le_refl _
      · rcases hc with hc | ⟨hc, ho⟩
        · left
          rcases Nat.lt_or_ge E (2 * s) with g | g
          · exact g
          · exfalso
            have a1 : D * E < 2 * r * E := Nat.mul_lt_mul_of_pos_right hc hE
            have a2 : 2 * s * D ≤ E * D := Nat.mul_le_mul_right _ g
            have a3 : 2 * r * E = 2 * (r * E) := Nat.mul_assoc _ _ _
            have a4 : 2 * s * D = 2 * (s * D) := Nat.mul_assoc _ _ _
            have a5 : E * D = D * E := Nat.mul_comm _ _
            omega
        · rcases Nat.lt_trichotomy E (2 * s) with g | g | g
          · exact .inl g
          · exact .inr ⟨g.symm, ho⟩
          · exfalso
            have a1 : 2 * r * E = D * E := by rw [hc]
            have a2 : 2 * s * D < E * D := Nat.mul_lt_mul_of_pos_right g hD
            have a3 : 2 * r * E = 2 * (r * E) := Nat.mul_assoc _ _ _
            have a4 : 2 * s * D = 2 * (s * D) := Nat.mul_assoc _ _ _
            have a5 : E * D = D * E := Nat.mul_comm _ _
            omega
    · omega
theorem rne_exact (q D : Nat) (hD : 0 < D) : rne (q * D) D = q := by
  unfold rne
  rw [Nat.mul_div_cancel _ hD, Nat.mul_mod_left, if_neg (by omega)]; rfl
theorem rne_lo (N D q : Nat) (hD : 0 < D) (h : q * D ≤ N) : q ≤ rne N D := by
  have := rne_mono (q * D) D N D hD hD (Nat.mul_le_mul_right _ h)
  rwa [rne_exact q D hD] at this
theorem rne_hi (N D q : Nat) (hD : 0 < D) (h : N ≤ q * D) : rne N D ≤ q := by
  have := rne_mono N D (q * D) D hD hD (Nat.mul_le_mul_right _ h)
  rwa [rne_exact q D hD] at this
/-- a digit that tells whether anything is left over is enough -/
theorem rne_sticky (N n g : Nat) (hn : 0 < n) (hg : 0 < g) : rne (2 * (N / n) + (N % n != 0).toNat) (4 * g) = rne N (n * (2 * g)) := by
  obtain ⟨q, r, hN, hr, e1, e2⟩ := rne_cases N n hn
  rw [e1, e2]
  obtain ⟨u, v, hq, hv, _, _⟩ := rne_cases q (2 * g) (by omega)
  have hs : (r != 0).toNat = if r = 0 then 0 else 1 := by
    by_cases h : r = 0
    · subst h; rfl
    · rw [if_neg h, (bne_iff_ne).2 h]; rfl
  rw [hs]
  have hNu : N = n * (2 * g) * u + (n * v + r) := by rw [hN, hq, Nat.mul_add, Nat.add_assoc, ← Nat.mul_assoc]
  have hlt : n * v + r < n * (2 * g) := by
    have : n * (v + 1) ≤ n * (2 * g) := Nat.mul_le_mul_left _ hv
    rw [Nat.mul_add, Nat.mul_one] at this; omega
  have d1 : N / (n * (2 * g)) = u := by
    rw [hNu, Nat.mul_add_div (Nat.mul_pos hn (by omega)), Nat.div_eq_of_lt hlt]; rfl
  have d2 : N % (n * (2 * g)) = n * v + r := by rw [hNu, Nat.mul_add_mod, Nat.mod_eq_of_lt hlt]
  unfold rne
  rw [d1, d2]
  have hmag : 2 * q + (if r = 0 then 0 else 1) = 4 * g * u + (2 * v + if r = 0 then 0 else 1) := by
    rw [hq, Nat.mul_add]
    have : 2 * (2 * g * u) = 4 * g * u := by rw [← Nat.mul_assoc, ← Nat.mul_assoc]
    omega
  have hlt2 : 2 * v + (if r = 0 then 0 else 1) < 4 * g := by split <;> omega
  rw [hmag, Nat.mul_add_div (by omega), Nat.div_eq_of_lt hlt2, Nat.mul_add_mod, Nat.mod_eq_of_lt hlt2]
  have hmul : n * (2 * g) = 2 * (n * g) := Nat.mul_left_comm _ _ _
  rcases Nat.lt_trichotomy v g with h | h | h
  · have : n * (v + 1) ≤ n * g := Nat.mul_le_mul_left _ h
    rw [Nat.mul_add, Nat.mul_one] at this
    rw [if_neg (by split <;> omega), if_neg (by omega)]
  · subst h
    by_cases h0 : r = 0
    · simp only [h0, if_true, Nat.add_zero]
      have e : (4 * v < 2 * (2 * v) ∨ 2 * (2 * v) = 4 * v ∧ u % 2 = 1) ↔ (n * (2 * v) < 2 * (n * v) ∨ 2 * (n * v) = n * (2 * v) ∧ u % 2 = 1) := by omega
      simp only [e]
    · simp only [if_neg h0]
      rw [if_pos (by omega), if_pos (by omega)]
  · have : n * (g + 1) ≤ n * v := Nat.mul_le_mul_left _ h
    rw [Nat.mul_add, Nat.mul_one] at this
    rw [if_pos (by split <;> omega), if_pos (by omega)]
/-- the place on the ladder of the number that is nearest to a / b -/
def IsR (a b R : Nat) : Prop := ∃ N D i j : Nat, 0 < D ∧ 2 ^ 52 * D ≤ N ∧ N < 2 ^ 53 * D ∧ N * b * 2 ^ i = a * D * 2 ^ j ∧ j ≤ 1074 + i ∧ R = (1074 + i - j) * 2 ^ 52 + rne N D
theorem two_pow_pos' (n : Nat) : 0 < 2 ^ n := Nat.pow_pos (by omega)
theorem IsR_bounds {N D : Nat} (hD : 0 < D) (h1 : 2 ^ 52 * D ≤ N) (h2 : N < 2 ^ 53 * D) : 2 ^ 52 ≤ rne N D ∧ rne N D ≤ 2 ^ 53 :=
  ⟨rne_lo N D _ hD h1, rne_hi N D _ hD (Nat.le_of_lt h2)⟩
/-- the greater number is not on a lower place -/
theorem IsR_mono {a b c d R S : Nat} (hb : 0 < b) (hd : 0 < d) (h : a * d ≤ c * b) (hR : IsR a b R) (hS : IsR c d S) : R ≤ S := by
  obtain ⟨N, D, i, j, hD, n1, n2, e1, hj, rfl⟩ := hR
  obtain ⟨M, E, k, l, hE, m1, m2, e2, hl, rfl⟩ := hS
  obtain ⟨r1, r2⟩ := IsR_bounds hD n1 n2
  obtain ⟨s1, s2⟩ := IsR_bounds hE m1 m2
  -- N / D * 2^(i-j) ≤ M / E * 2^(k-l)
  have key : N * E * 2 ^ (i + l) ≤ M * D * 2 ^ (k + j) := by
    have t : N * E * 2 ^ (i + l) * (b * d) ≤ M * D * 2 ^ (k + j) * (b * d) := by
      have x1 : N * E * 2 ^ (i + l) * (b * d) = (N * b * 2 ^ i) * (E * d * 2 ^ l) := by rw [Nat.pow_add]; ac_rfl
      have x2 : M * D * 2 ^ (k + j) * (b * d) = (M * d * 2 ^ k) * (D * b * 2 ^ j) := by rw [Nat.pow_add]; ac_rfl
      rw [x1, x2, e1, e2]
      have x3 : a * D * 2 ^ j * (E * d * 2 ^ l) = a * d * (D * E * 2 ^ j * 2 ^ l) := by ac_rfl
      have x4 : c * E * 2 ^ l * (D * b * 2 ^ j) = c * b * (D * E * 2 ^ j * 2 ^ l) := by ac_rfl
      rw [x3, x4]
      exact Nat.mul_le_mul_right _ h
    exact Nat.le_of_mul_le_mul_right t (Nat.mul_pos hb hd)
  rcases Nat.lt_trichotomy (i + l) (k + j) with g | g | g
  · have : (1074 + i - j) * 2 ^ 52 + 2 ^ 52 ≤ (1074 + k - l) * 2 ^ 52 := by
      have : 1074 + i - j + 1 ≤ 1074 + k - l := by omega
      have := Nat.mul_le_mul_right (2 ^ 52) this
      rwa [Nat.add_mul, Nat.one_mul] at this
    omega
  · rw [g] at key
    have := rne_mono N D M E hD hE (Nat.le_of_mul_le_mul_right key (two_pow_pos' _))
    have e : 1074 + i - j = 1074 + k - l := by omega
    rw [e]; omega
  · exfalso
    obtain ⟨q, hq⟩ : ∃ q, i + l = k + j + 1 + q := ⟨i + l - (k + j) - 1, by omega⟩
    rw [hq, Nat.pow_add, Nat.pow_add (2) (k + j) 1] at key
    have a1 : M * D < 2 ^ 53 * E * D := Nat.mul_lt_mul_of_pos_right m2 hD
    have a2 : 2 ^ 52 * D * E ≤ N * E := Nat.mul_le_mul_right _ n1
    have a3 : 2 ^ 53 * E * D = 2 ^ 52 * D * E * 2 := by rw [show (2 : Nat) ^ 53 = 2 ^ 52 * 2 from rfl]; ac_rfl
    have a4 : N * E * 2 * 2 ^ (k + j) ≤ N * E * (2 ^ (k + j) * 2 ^ 1 * 2 ^ q) := by
      have : N * E * (2 ^ (k + j) * 2 ^ 1 * 2 ^ q) = N * E * 2 * 2 ^ (k + j) * 2 ^ q := by rw [Nat.pow_one]; ac_rfl
      rw [this]; exact Nat.le_mul_of_pos_right _ (two_pow_pos' _)
    have a5 := Nat.le_of_mul_le_mul_right (Nat.le_trans a4 key) (two_pow_pos' _)
    omega
theorem IsR_unique {a b c d R S : Nat} (hb : 0 < b) (hd : 0 < d) (h : a * d = c * b) (hR : IsR a b R) (hS : IsR c d S) : R = S :=
  Nat.le_antisymm (IsR_mono hb hd (Nat.le_of_eq h) hR hS) (IsR_mono hd hb (Nat.le_of_eq h.symm) hS hR)
/-- what a place on the ladder stands for, in the least parts -/
def V (r : Nat) : Nat := if r < 2 ^ 52 then r else (2 ^ 52 + r % 2 ^ 52) * 2 ^ (r / 2 ^ 52 - 1)
theorem V_step (r : Nat) : V r < V (r + 1) := by
  unfold V
  by_cases h : r + 1 < 2 ^ 52
  · rw [if_pos (by omega), if_pos h]; omega
  · rw [if_neg h]
    by_cases h2 : r < 2 ^ 52
    · rw [if_pos h2]
      have : r + 1 = 2 ^ 52 := by omega
      rw [this, Nat.mod_self, Nat.div_self (by decide)]; omega
    · rw [if_neg h2]
      by_cases h3 : r % 2 ^ 52 + 1 < 2 ^ 52
      · have e1 : (r + 1) / 2 ^ 52 = r / 2 ^ 52 := by omega
        have e2 : (r + 1) % 2 ^ 52 = r % 2 ^ 52 + 1 := by omega
        rw [e1, e2]
        exact Nat.mul_lt_mul_of_pos_right (by omega) (two_pow_pos' _)
      · have e1 : (r + 1) / 2 ^ 52 = r / 2 ^ 52 + 1 := by omega
        have e2 : (r + 1) % 2 ^ 52 = 0 := by omega
        obtain ⟨q, hq⟩ : ∃ q, r / 2 ^ 52 = q + 1 := ⟨r / 2 ^ 52 - 1, by omega⟩
        rw [e1, e2, hq]
        show (2 ^ 52 + r % 2 ^ 52) * 2 ^ (q + 1 - 1) < (2 ^ 52 + 0) * 2 ^ (q + 1 + 1 - 1)
        have e4 : (2 : Nat) ^ (q + 1) = 2 * 2 ^ q := Nat.pow_succ'
        rw [show q + 1 - 1 = q from rfl, show q + 1 + 1 - 1 = q + 1 from rfl, e4, ← Nat.mul_assoc]
        exact Nat.mul_lt_mul_of_pos_right (by omega) (two_pow_pos' _)
theorem V_lt {r s : Nat} (h : r < s) : V r < V s := by
  induction s with
  | zero => omega
  | succ s ih =>
    rcases Nat.lt_or_ge r s with g | g
    · exact Nat.lt_trans (ih g) (V_step s)
    · have : r = s := by omega
      subst this; exact V_step r
theorem V_le {r s : Nat} (h : r ≤ s) : V r ≤ V s := by
  rcases Nat.lt_or_ge r s with g | g
  · exact Nat.le_of_lt (V_lt g)
  · rw [Nat.le_antisymm h g]; exact Nat.le_refl _
theorem V_le_iff {r s : Nat} : V r ≤ V s ↔ r ≤ s := ⟨fun h => by rcases Nat.lt_or_ge s r with g | g; have := V_lt g; omega; exact g, V_le⟩
theorem V_lt_iff {r s : Nat} : V r < V s ↔ r < s := ⟨fun h => by rcases Nat.lt_or_ge r s with g | g; exact g; have := V_le g; omega, V_lt⟩
theorem V_inj {r s : Nat} (h : V r = V s) : r = s := Nat.le_antisymm (V_le_iff.1 (Nat.le_of_eq h)) (V_le_iff.1 (Nat.le_of_eq h.symm))
theorem V_zero : V 0 = 0 := rfl
def dbl : Nat → Nat
  | 0 => 1
  | n + 1 => dbl n * 2
theorem dbl_eq (n : Nat) : dbl n = 2 ^ n := by
  induction n with
  | zero => rfl
  | succ n ih => rw [Nat.pow_succ, ← ih]; rfl
/-- so many least parts has one -/
def Uf : Nat := dbl 1074
theorem pow_Uf (x : Nat) (h : x = 1074) : 2 ^ x = Uf := by rw [← dbl_eq, h]; rfl
theorem pow_Uf_add (x k : Nat) (h : x = 1074 + k) : 2 ^ x = Uf * 2 ^ k := by rw [h, Nat.pow_add, pow_Uf _ rfl]
theorem Uf_pos : 0 < Uf := by
  obtain ⟨x, hx⟩ : ∃ x, x = 1074 := ⟨_, rfl⟩
  rw [← pow_Uf x hx]; exact two_pow_pos' x
/-- a number that stands on the ladder is its own nearest one -/
theorem IsR_V (r : Nat) (h : 2 ^ 52 ≤ r) : IsR (V r) Uf r := by
  unfold V
  rw [if_neg (by omega)]
  refine ⟨2 ^ 52 + r % 2 ^ 52, 1, r / 2 ^ 52 - 1, 1074, by decide, by omega, by omega, ?_, by omega, ?_⟩
  · rw [Nat.mul_one, Nat.mul_right_comm, pow_Uf _ rfl]
  · have := rne_exact (2 ^ 52 + r % 2 ^ 52) 1 (by decide)
    rw [Nat.mul_one] at this
    rw [this]
    have : 1074 + (r / 2 ^ 52 - 1) - 1074 = r / 2 ^ 52 - 1 := by omega
    rw [this, Nat.sub_mul]; omega

def ng (w : Nat) : Bool := decide (2 ^ 63 ≤ w)
def rg (w : Nat) : Nat := w % 2 ^ 63
/-- the place of infinity -/
def infR : Nat := 2047 * 2 ^ 52
/-- the place with its sign -/
def sr (w : Nat) : Int := if ng w = true then -(rg w : Int) else (rg w : Int)
theorem read_eq (w : Nat) (hw : w < 2 ^ 64) : double.read w = if rg w < 2 ^ 52 then .number (ng w) (rg w) (-1074) else if rg w < infR then .number (ng w) (2 ^ 52 + rg w % 2 ^ 52) (-1074 + (rg w / 2 ^ 52 - 1 : Nat)) else if rg w = infR then .infinity (ng w) else .nan (ng w) (rg w - infR) := by
  have h : (w / 2 ^ 63 % 2 == 1) = ng w := by
    unfold ng
    by_cases h : 2 ^ 63 ≤ w
    · rw [decide_eq_true h, beq_iff_eq]; omega
    · rw [decide_eq_false h, beq_eq_false_iff_ne]; omega
  rw [← h]; rfl
theorem read_num (w : Nat) (hw : w < 2 ^ 64) (h : rg w < infR) : ∃ m p, double.read w = .number (ng w) m p ∧ -1074 ≤ p ∧ m * 2 ^ (p + 1074).toNat = V (rg w) ∧ m < 2 ^ 53 ∧ p ≤ 971 ∧ (2 ^ 52 ≤ rg w → 2 ^ 52 ≤ m) := by
  rw [read_eq w hw]
  unfold V
  by_cases h1 : rg w < 2 ^ 52
  · rw [if_pos h1, if_pos h1]
    exact ⟨rg w, -1074, rfl, by omega, by show rg w * 2 ^ 0 = _; omega, by omega, by omega, by omega⟩
  · rw [if_neg h1, if_neg h1, if_pos h]
    refine ⟨_, _, rfl, by omega, ?_, by omega, by unfold infR at h; omega, fun _ => by omega⟩
    have : (-1074 + ((rg w / 2 ^ 52 - 1 : Nat) : Int) + 1074).toNat = rg w / 2 ^ 52 - 1 := by omega
    rw [this]
theorem compare_congr (A B C D : Int) (h1 : A < B ↔ C < D) (h2 : A = B ↔ C = D) : compare A B = compare C D := by
  show compareOfLessAndEq A B = compareOfLessAndEq C D
  unfold compareOfLessAndEq
  simp only [h1, h2]
theorem signed_scale (s : Bool) (m u c : Nat) : signed s m u * ((2 ^ c : Nat) : Int) = if s = true then -((m * 2 ^ u * 2 ^ c : Nat) : Int) else ((m * 2 ^ u * 2 ^ c : Nat) : Int) := by
  unfold signed
  rw [Nat.shiftLeft_eq]
  cases s
  · simp only [Bool.false_eq_true, if_false, Int.natCast_mul]
  · simp only [if_true, Int.natCast_mul, Int.neg_mul]
def sV (w : Nat) : Int := if ng w = true then -(V (rg w) : Int) else (V (rg w) : Int)
theorem sV_lt (x y : Nat) : sV x < sV y ↔ sr x < sr y := by
  unfold sV sr
  have h1 := @V_lt_iff (rg x) (rg y)
  have h2 := @V_lt_iff (rg y) (rg x)
  have h3 := @V_lt_iff 0 (rg x)
  have h4 := @V_lt_iff 0 (rg y)
  rw [V_zero] at h3 h4
  split <;> split <;> omega
theorem sV_eq (x y : Nat) : sV x = sV y ↔ sr x = sr y := by
  have h1 := sV_lt x y
  have h2 := sV_lt y x
  omega
theorem order_eq (x y : Nat) (hx : x < 2 ^ 64) (hy : y < 2 ^ 64) (h1 : rg x ≤ infR) (h2 : rg y ≤ infR) : double.order x y = some (compare (sr x) (sr y)) := by
  unfold Format.order
  rcases Nat.lt_or_ge (rg x) infR with g1 | g1
  · obtain ⟨m, p, e1, p1, v1, _, _, _⟩ := read_num x hx g1
    rcases Nat.lt_or_ge (rg y) infR with g2 | g2
    · obtain ⟨n, q, e2, q1, v2, _, _, _⟩ := read_num y hy g2
      rw [e1, e2]
      show some (compare (signed (ng x) m (p - min p q).toNat) (signed (ng y) n (q - min p q).toNat)) = _
      congr 1
      have c1 : signed (ng x) m (p - min p q).toNat * ((2 ^ (min p q + 1074).toNat : Nat) : Int) = sV x := by
        rw [signed_scale, Nat.mul_assoc, ← Nat.pow_add, show (p - min p q).toNat + (min p q + 1074).toNat = (p + 1074).toNat by omega, v1]; rfl
      have c2 : signed (ng y) n (q - min p q).toNat * ((2 ^ (min p q + 1074).toNat : Nat) : Int) = sV y := by
        rw [signed_scale, Nat.mul_assoc, ← Nat.pow_add, show (q - min p q).toNat + (min p q + 1074).toNat = (q + 1074).toNat by omega, v2]; rfl
      have hpos : (0 : Int) < ((2 ^ (min p q + 1074).toNat : Nat) : Int) := Int.natCast_pos.2 (two_pow_pos' _)
      apply compare_congr
      · rw [← sV_lt, ← c1, ← c2]
        exact (Int.mul_lt_mul_right hpos).symm
      · rw [← sV_eq, ← c1, ← c2]
        exact (Int.mul_eq_mul_right_iff (Int.ne_of_gt hpos)).symm
    · have e2 : double.read y = .infinity (ng y) := by rw [read_eq y hy, if_neg (by unfold infR at *; omega), if_neg (by omega), if_pos (by omega)]
      rw [e1, e2]
      show some (if ng y = true then Ordering.gt else Ordering.lt) = _
      congr 1
      show _ = compareOfLessAndEq (sr x) (sr y)
      unfold compareOfLessAndEq sr
      cases ng x <;> cases ng y <;> simp only [Bool.false_eq_true, if_false, if_true]
      · rw [if_pos (by omega)]
      · rw [if_neg (by omega), if_neg (by omega)]
      · rw [if_pos (by omega)]
      · rw [if_neg (by omega), if_neg (by omega)]
  · have e1 : double.read x = .infinity (ng x) := by rw [read_eq x hx, if_neg (by unfold infR at *; omega), if_neg (by omega), if_pos (by omega)]
    rcases Nat.lt_or_ge (rg y) infR with g2 | g2
    · obtain ⟨n, q, e2, q1, v2, _, _, _⟩ := read_num y hy g2
      rw [e1, e2]
      show some (if ng x = true then Ordering.lt else Ordering.gt) = _
      congr 1
      show _ = compareOfLessAndEq (sr x) (sr y)
      unfold compareOfLessAndEq sr
      cases ng x <;> cases ng y <;> simp only [Bool.false_eq_true, if_false, if_true]
      · rw [if_neg (by omega), if_neg (by omega)]
      · rw [if_neg (by omega), if_neg (by omega)]
      · rw [if_pos (by omega)]
      · rw [if_pos (by omega)]
    · have e2 : double.read y = .infinity (ng y) := by rw [read_eq y hy, if_neg (by unfold infR at *; omega), if_neg (by omega), if_pos (by omega)]
      rw [e1, e2]
      show some (compare (ng y).toNat (ng x).toNat) = _
      congr 1
      show compareOfLessAndEq (ng y).toNat (ng x).toNat = compareOfLessAndEq (sr x) (sr y)
      unfold compareOfLessAndEq sr
      have : rg x = rg y := by omega
      have hpos : 0 < infR := by decide
      rw [this]
      cases ng x <;> cases ng y <;> simp only [Bool.false_eq_true, if_false, if_true, Bool.toNat_false, Bool.toNat_true]
      · simp
      · rw [if_neg (by omega), if_neg (by omega), if_neg (by omega), if_neg (by omega)]
      · rw [if_pos (by omega), if_pos (by omega)]
      · simp
theorem order_nan (x y : Nat) (hx : x < 2 ^ 64) (hy : y < 2 ^ 64) (h : infR < rg x ∨ infR < rg y) : double.order x y = none := by
  unfold Format.order
  rw [read_eq x hx, read_eq y hy]
  rcases h with h | h
  · rw [if_neg (by unfold infR at *; omega), if_neg (by omega), if_neg (by omega)]; rfl
  · rw [if_neg (by unfold infR at *; omega : ¬ rg y < 2 ^ 52), if_neg (by omega : ¬ rg y < infR), if_neg (by omega : ¬ rg y = infR)]
    split
    · rfl
    · split
      · rfl
      · split <;> rfl
theorem cut_even (neg : Bool) (n drop : Nat) : Toward.even.cut neg n drop = rne n (2 ^ drop) := by
  have hmore : ∀ (gap : Nat), (n / gap + (decide (gap < 2 * (n % gap)) || (gap == 2 * (n % gap) && n / gap % 2 == 1)).toNat) = rne n gap := by
    intro gap
    unfold rne
    by_cases h1 : gap < 2 * (n % gap)
    · rw [decide_eq_true h1, if_pos (.inl h1)]; rfl
    · rw [decide_eq_false h1]
      by_cases h2 : 2 * (n % gap) = gap ∧ n / gap % 2 = 1
      · rw [if_pos (.inr h2), h2.1, h2.2]; simp
      · rw [if_neg (by omega)]
        have : (gap == 2 * (n % gap) && n / gap % 2 == 1) = false := by
          rw [Bool.eq_false_iff]; intro h; simp only [Bool.and_eq_true, beq_iff_eq] at h; exact h2 ⟨h.1.symm, h.2⟩
        rw [this]; rfl
  have e : Toward.even.cut neg n drop = rne n (1 <<< min drop (n.log2 + 2)) := by rw [← hmore]; rfl
  rw [e, Nat.shiftLeft_eq, Nat.one_mul]
  rcases Nat.le_total drop (n.log2 + 2) with h | h
  · rw [Nat.min_eq_left h]
  · rw [Nat.min_eq_right h]
    have hn : n < 2 ^ (n.log2 + 1) := Nat.lt_log2_self
    have e1 : (2 : Nat) ^ (n.log2 + 2) = 2 * 2 ^ (n.log2 + 1) := Nat.pow_succ'
    have e2 : (2 : Nat) ^ (n.log2 + 2) ≤ 2 ^ drop := Nat.pow_le_pow_right (by decide) h
    have z : ∀ g, 2 * n < g → rne n g = 0 := by
      intro g hg
      unfold rne
      rw [Nat.div_eq_of_lt (by omega), Nat.mod_eq_of_lt (by omega), if_neg (by omega)]
    rw [z _ (by omega), z _ (by omega)]
theorem nearest_eq (neg : Bool) (mag : Nat) (place : Int) (h0 : mag ≠ 0) (hl : -1074 ≤ place + mag.log2 - 52) :
    double.nearest neg mag place = double.word neg (min ((place + mag.log2 - 52 + 1074).toNat * 2 ^ 52 + rne (mag * 2 ^ (52 - (mag.log2 : Int)).toNat) (2 ^ ((mag.log2 : Int) - 52).toNat)) infR) := by
  unfold Format.nearest
  rw [if_neg h0]
  have e : max (place + (mag.log2 : Int) - (double.fractionBits : Int)) double.leastPlace = place + mag.log2 - 52 := by
    show max (place + (mag.log2 : Int) - 52) (-1074) = _
    omega
  simp only [e, cut_even, Nat.shiftLeft_eq]
  rw [show place - (place + (mag.log2 : Int) - 52) = 52 - (mag.log2 : Int) by omega, show place + (mag.log2 : Int) - 52 - place = (mag.log2 : Int) - 52 by omega]
  rfl
/-- a significand at a place -/
theorem V_sig (x f : Nat) (h1 : 2 ^ 52 ≤ f) (h2 : f ≤ 2 ^ 53) : V (x * 2 ^ 52 + f) = f * 2 ^ x := by
  unfold V
  rw [if_neg (by omega)]
  rcases Nat.lt_or_ge f (2 ^ 53) with h | h
  · have e1 : (x * 2 ^ 52 + f) / 2 ^ 52 = x + 1 := by omega
    have e2 : (x * 2 ^ 52 + f) % 2 ^ 52 = f - 2 ^ 52 := by omega
    rw [e1, e2, show x + 1 - 1 = x from rfl, show 2 ^ 52 + (f - 2 ^ 52) = f by omega]
  · have e1 : (x * 2 ^ 52 + f) / 2 ^ 52 = x + 2 := by omega
    have e2 : (x * 2 ^ 52 + f) % 2 ^ 52 = 0 := by omega
    have e3 : (2 : Nat) ^ (x + 1) = 2 * 2 ^ x := Nat.pow_succ'
    rw [e1, e2, show x + 2 - 1 = x + 1 from rfl, e3, show f = 2 ^ 53 by omega, ← Nat.mul_assoc]
theorem log2_bounds (m k : Nat) (h1 : 2 ^ k ≤ m) (h2 : m < 2 ^ (k + 1)) : m.log2 = k := by
  have h0 : m ≠ 0 := by have := two_pow_pos' k; omega
  have a1 := (Nat.le_log2 h0).2 h1
  have a2 := (Nat.log2_lt h0).2 h2
  omega
theorem log2_le53 (K : Nat) (h0 : 0 < K) (h : K ≤ 2 ^ 53) : K.log2 ≤ 53 := by
  have := (Nat.log2_lt (n := K) (k := 54) (by omega)).2 (by omega)
  omega
theorem word_ng (s : Bool) (r : Nat) (h : r < 2 ^ 63) : ng (double.word s r) = s ∧ rg (double.word s r) = r ∧ double.word s r < 2 ^ 64 := by
  unfold ng rg Format.word
  have e : double.signWeight = 2 ^ 63 := rfl
  rw [e]
  cases s
  · simp only [Bool.false_eq_true, if_false, decide_eq_false_iff_not]; omega
  · simp only [if_true, decide_eq_true_eq]; omega
/-- a whole number of at most 53 digits stands on the ladder -/
theorem whole_word (n : Int) (h0 : n ≠ 0) (h : n.natAbs ≤ 2 ^ 53) : ∃ R, Go.FloatKind.nearest .f64 n = double.word (decide (n < 0)) R ∧ V R = n.natAbs * Uf ∧ 2 ^ 52 ≤ R ∧ R < infR := by
  have hK : n.natAbs ≠ 0 := by omega
  have hl := log2_le53 n.natAbs (by omega) h
  have g1 := Nat.log2_self_le hK
  have g2 : n.natAbs < 2 ^ (n.natAbs.log2 + 1) := Nat.lt_log2_self
  show ∃ R, double.nearest (decide (n < 0)) n.natAbs 0 = _ ∧ _
  rw [nearest_eq _ _ _ hK (by omega)]
  generalize hK' : n.natAbs = K at *
  generalize hL : K.log2 = L at *
  refine ⟨_, rfl, ?_⟩
  rcases Nat.lt_or_ge L 53 with hlt | hge
  · have e1 : ((L : Int) - 52).toNat = 0 := by omega
    have e2 : (52 - (L : Int)).toNat = 52 - L := by omega
    have e3 : (0 + (L : Int) - 52 + 1074).toNat = L + 1022 := by omega
    rw [e1, e2, e3]
    have e4 : rne (K * 2 ^ (52 - L)) (2 ^ 0) = K * 2 ^ (52 - L) := by
      have := rne_exact (K * 2 ^ (52 - L)) 1 (by decide)
      rwa [Nat.mul_one] at this
    rw [e4]
    have f1 : 2 ^ 52 ≤ K * 2 ^ (52 - L) := by
      have := Nat.mul_le_mul_right (2 ^ (52 - L)) g1
      rwa [← Nat.pow_add, show L + (52 - L) = 52 by omega] at this
    have f2 : K * 2 ^ (52 - L) < 2 ^ 53 := by
      have := Nat.mul_lt_mul_of_pos_right g2 (two_pow_pos' (52 - L))
      rwa [← Nat.pow_add, show L + 1 + (52 - L) = 53 by omega] at this
    have fi : (L + 1022) * 2 ^ 52 + K * 2 ^ (52 - L) < infR := by unfold infR; omega
    rw [Nat.min_eq_left (Nat.le_of_lt fi)]
    refine ⟨?_, by omega, fi⟩
    rw [V_sig _ _ f1 (Nat.le_of_lt f2), Nat.mul_assoc, ← Nat.pow_add, pow_Uf _ (by omega)]
  · have : L = 53 := by omega
    subst this
    have : K = 2 ^ 53 := by omega
    subst this
    have e4 : rne (2 ^ 53 * 2 ^ (52 - ((53 : Nat) : Int)).toNat) (2 ^ (((53 : Nat) : Int) - 52).toNat) = 2 ^ 52 := by
      show rne (2 ^ 52 * 2) 2 = 2 ^ 52
      exact rne_exact _ _ (by decide)
    rw [e4]
    obtain ⟨x, hx⟩ : ∃ x, x = 1075 := ⟨_, rfl⟩
    have e3 : (0 + ((53 : Nat) : Int) - 52 + 1074).toNat = x := by omega
    rw [e3, Nat.min_eq_left (by unfold infR; omega)]
    refine ⟨?_, by omega, by unfold infR; omega⟩
    rw [V_sig _ _ (by omega) (by omega), pow_Uf_add x 1 hx, show (2 : Nat) ^ 53 = 2 ^ 52 * 2 ^ 1 from rfl, Nat.mul_assoc, Nat.mul_comm Uf]
theorem read_whole (n : Int) (h0 : n ≠ 0) (h : n.natAbs ≤ 2 ^ 53) : ∃ m p, double.read (Go.FloatKind.nearest .f64 n) = .number (decide (n < 0)) m p ∧ 2 ^ 52 ≤ m ∧ m < 2 ^ 53 ∧ -53 ≤ p ∧ p ≤ 1 ∧ m * 2 ^ (p + 1074).toNat = n.natAbs * Uf := by
  obtain ⟨R, e, v, r1, r2⟩ := whole_word n h0 h
  obtain ⟨w1, w2, w3⟩ := word_ng (decide (n < 0)) R (by unfold infR at r2; omega)
  obtain ⟨m, p, e1, p1, v1, m1, p2, m2⟩ := read_num (double.word (decide (n < 0)) R) w3 (by rw [w2]; exact r2)
  rw [w1] at e1
  rw [w2] at v1 m2
  have hm := m2 r1
  rw [v] at v1
  refine ⟨m, p, by rw [e, e1], hm, m1, ?_, ?_, v1⟩
  · obtain ⟨x, hx⟩ : ∃ x, x = 1074 := ⟨_, rfl⟩
    rw [← pow_Uf x hx] at v1
    have a1 : 1 * 2 ^ x ≤ n.natAbs * 2 ^ x := Nat.mul_le_mul_right _ (by omega)
    have a2 : m * 2 ^ (p + 1074).toNat < 2 ^ 53 * 2 ^ (p + 1074).toNat := Nat.mul_lt_mul_of_pos_right m1 (two_pow_pos' _)
    rw [v1, ← Nat.pow_add] at a2
    have a3 : 2 ^ x < 2 ^ (53 + (p + 1074).toNat) := by omega
    have a4 := (Nat.pow_lt_pow_iff_right (by decide : 1 < 2)).1 a3
    omega
  · obtain ⟨x, hx⟩ : ∃ x, x = 1074 := ⟨_, rfl⟩
    rw [← pow_Uf x hx] at v1
    have a1 : n.natAbs * 2 ^ x ≤ 2 ^ 53 * 2 ^ x := Nat.mul_le_mul_right _ h
    have a2 : 2 ^ 52 * 2 ^ (p + 1074).toNat ≤ m * 2 ^ (p + 1074).toNat := Nat.mul_le_mul_right _ hm
    rw [v1, ← Nat.pow_add] at a2
    rw [← Nat.pow_add] at a1
    have a3 : 2 ^ (52 + (p + 1074).toNat) ≤ 2 ^ (53 + x) := Nat.le_trans a2 a1
    have a4 := (Nat.pow_le_pow_iff_right (by decide : 1 < 2)).1 a3
    omega
theorem read_zero : double.read (Go.FloatKind.nearest .f64 0) = .number false 0 (-1074) := rfl
theorem quot_lo (m n : Nat) (h1 : 2 ^ 52 ≤ m) (h2 : m < 2 ^ 53) (h3 : 2 ^ 52 ≤ n) (h4 : n < 2 ^ 53) : 2 ^ 53 ≤ m * 2 ^ 54 / n ∧ m * 2 ^ 54 / n < 2 ^ 55 := by
  constructor
  · rw [Nat.le_div_iff_mul_le (by omega)]; omega
  · rw [Nat.div_lt_iff_lt_mul (by omega)]; omega
theorem scale_lem (m X b P T U a n Q : Nat) (h1 : m * P = a * U) (h2 : n * Q = b * U) : m * X * b * (P * T * 2) * U = a * (n * (2 * T)) * (Q * X) * U := by
  have x1 : m * X * b * (P * T * 2) * U = (m * P) * (b * U) * (X * T * 2) := by ac_rfl
  have x2 : a * (n * (2 * T)) * (Q * X) * U = (a * U) * (n * Q) * (X * T * 2) := by ac_rfl
  rw [x1, x2, h1, h2]
theorem two_lem (A B n T : Nat) (h : B = A * 2) : A * (n * (2 * T)) = T * B * n := by
  subst h; ac_rfl
theorem inf_lem (Z K : Nat) (hz : Z ≤ 1500) (hk : K ≤ 2 ^ 53) : Z * 2 ^ 52 + K < infR := by
  unfold infR; omega
theorem div_whole (a b : Int) (ha : a ≠ 0) (hb : b ≠ 0) (h1 : a.natAbs ≤ 2 ^ 53) (h2 : b.natAbs ≤ 2 ^ 53) :
    ∃ R, double.div (Go.FloatKind.nearest .f64 a) (Go.FloatKind.nearest .f64 b) = some (double.word (decide (a < 0) ^^ decide (b < 0)) R) ∧ IsR a.natAbs b.natAbs R ∧ 2 ^ 52 ≤ R ∧ R < infR := by
  obtain ⟨m, p, e1, m1, m2, p1, p2, v1⟩ := read_whole a ha h1
  obtain ⟨n, q, e2, n1, n2, q1, q2, v2⟩ := read_whole b hb h2
  have lm : m.log2 = 52 := log2_bounds m 52 m1 m2
  have ln : n.log2 = 52 := log2_bounds n 52 n1 n2
  obtain ⟨k1, k2⟩ := quot_lo m n m1 m2 n1 n2
  unfold Format.div
  rw [e1, e2]
  have eq : Datum.quotient (double.fractionBits + 2) (.number (decide (a < 0)) m p) (.number (decide (b < 0)) n q) = some (.number (decide (a < 0) ^^ decide (b < 0)) (2 * (m * 2 ^ 54 / n) + (m * 2 ^ 54 % n != 0).toNat) (p - q - 55)) := by
    unfold Datum.quotient
    simp only
    rw [if_neg (by omega), lm, ln]
    show some (Datum.number _ (2 * (m <<< 54 / n) + (m <<< 54 % n != 0).toNat) (p - q - 54 - 1)) = _
    rw [Nat.shiftLeft_eq, show p - q - 54 - 1 = p - q - 55 by omega]
  rw [eq]
  show ∃ R, some (double.nearest _ _ _) = _ ∧ _
  have hs : (m * 2 ^ 54 % n != 0).toNat ≤ 1 := Bool.toNat_le _
  have hst := fun g hg => rne_sticky (m * 2 ^ 54) n g (by omega) hg
  generalize hM : 2 * (m * 2 ^ 54 / n) + (m * 2 ^ 54 % n != 0).toNat = M at *
  have hM1 : 2 ^ 54 ≤ M := by omega
  have hM2 : M < 2 ^ 56 := by omega
  have hd := Nat.div_add_mod (m * 2 ^ 54) n
  have hdm := Nat.mod_lt (m * 2 ^ 54) (show n > 0 by omega)
  obtain ⟨t, ht, ht1, ht2⟩ : ∃ t, M.log2 = t + 54 ∧ t ≤ 1 ∧ 2 ^ (t + 53) ≤ m * 2 ^ 54 / n ∧ m * 2 ^ 54 / n < 2 ^ (t + 54) := by
    rcases Nat.lt_or_ge M (2 ^ 55) with g | g
    · exact ⟨0, log2_bounds M 54 hM1 g, by omega, by omega, by omega⟩
    · exact ⟨1, log2_bounds M 55 g hM2, by omega, by omega, by omega⟩
  rw [nearest_eq _ _ _ (by omega) (by rw [ht]; omega), ht]
  have c1 : (52 - ((t + 54 : Nat) : Int)).toNat = 0 := by omega
  have c2 : (((t + 54 : Nat) : Int) - 52).toNat = t + 2 := by omega
  rw [c1, c2, Nat.pow_zero, Nat.mul_one, show (2 : Nat) ^ (t + 2) = 4 * 2 ^ t by rw [Nat.pow_add, Nat.mul_comm], hst (2 ^ t) (two_pow_pos' _)]
  have hD : 0 < n * (2 * 2 ^ t) := Nat.mul_pos (by omega) (Nat.mul_pos (by omega) (two_pow_pos' _))
  have d1 : 2 ^ 52 * (n * (2 * 2 ^ t)) ≤ m * 2 ^ 54 := by
    have := (Nat.le_div_iff_mul_le (by omega : 0 < n)).1 ht2.1
    have e : 2 ^ 52 * (n * (2 * 2 ^ t)) = 2 ^ (t + 53) * n := by rw [Nat.pow_add]; exact two_lem (2 ^ 52) (2 ^ 53) n (2 ^ t) (by decide)
    rw [e]; exact this
  have d2 : m * 2 ^ 54 < 2 ^ 53 * (n * (2 * 2 ^ t)) := by
    have := (Nat.div_lt_iff_lt_mul (by omega : 0 < n)).1 ht2.2
    have e : 2 ^ 53 * (n * (2 * 2 ^ t)) = 2 ^ (t + 54) * n := by rw [Nat.pow_add]; exact two_lem (2 ^ 53) (2 ^ 54) n (2 ^ t) (by decide)
    rw [e]; exact this
  obtain ⟨r1, r2⟩ := IsR_bounds hD d1 d2
  generalize hRN : rne (m * 2 ^ 54) (n * (2 * 2 ^ t)) = K at *
  have hlast : (p - q - 55 + ((t + 54 : Nat) : Int) - 52 + 1074) = (1074 + ((p + 1074).toNat + t + 1) - ((q + 1074).toNat + 54) : Nat) := by omega
  rw [hlast, Int.toNat_natCast]
  have hinf : (1074 + ((p + 1074).toNat + t + 1) - ((q + 1074).toNat + 54)) * 2 ^ 52 + K < infR := by
    exact inf_lem _ _ (by omega) r2
  rw [Nat.min_eq_left (Nat.le_of_lt hinf)]
  refine ⟨_, rfl, ⟨m * 2 ^ 54, n * (2 * 2 ^ t), (p + 1074).toNat + t + 1, (q + 1074).toNat + 54, hD, d1, d2, ?_, by omega, by rw [hRN]⟩, by omega, hinf⟩
  refine Nat.eq_of_mul_eq_mul_right Uf_pos ?_
  have y1 : (2 : Nat) ^ ((p + 1074).toNat + t + 1) = 2 ^ (p + 1074).toNat * 2 ^ t * 2 := by rw [Nat.pow_add, Nat.pow_add, Nat.pow_one]
  have y2 : (2 : Nat) ^ ((q + 1074).toNat + 54) = 2 ^ (q + 1074).toNat * 2 ^ 54 := Nat.pow_add _ _ _
  rw [y1, y2]
  exact scale_lem m (2 ^ 54) b.natAbs (2 ^ (p + 1074).toNat) (2 ^ t) Uf a.natAbs n (2 ^ (q + 1074).toNat) v1 v2
theorem div_zero_left (b : Int) (hb : b ≠ 0) (h2 : b.natAbs ≤ 2 ^ 53) : double.div (Go.FloatKind.nearest .f64 0) (Go.FloatKind.nearest .f64 b) = some (double.word (decide (b < 0)) 0) := by
  obtain ⟨n, q, e2, n1, n2, q1, q2, v2⟩ := read_whole b hb h2
  unfold Format.div
  rw [read_zero, e2]
  unfold Datum.quotient
  simp only
  rw [if_neg (by omega)]
  have : 0 <<< (double.fractionBits + 2 + n.log2 - Nat.log2 0) = 0 := by rw [Nat.shiftLeft_eq, Nat.zero_mul]
  rw [this, Nat.zero_div, Nat.zero_mod]
  show some (double.nearest _ 0 _) = _
  unfold Format.nearest
  rw [if_pos rfl]
  simp
theorem div_zero_right (a : Int) (ha : a ≠ 0) (h1 : a.natAbs ≤ 2 ^ 53) : double.div (Go.FloatKind.nearest .f64 a) (Go.FloatKind.nearest .f64 0) = some (double.word (decide (a < 0)) infR) := by
  obtain ⟨m, p, e1, m1, m2, p1, p2, v1⟩ := read_whole a ha h1
  unfold Format.div
  rw [read_zero, e1]
  unfold Datum.quotient
  simp only
  rw [if_pos trivial, if_neg (by omega)]
  simp only [Bool.xor_false]
  rfl
theorem div_zero_zero : double.div (Go.FloatKind.nearest .f64 0) (Go.FloatKind.nearest .f64 0) = none := rfl
theorem div_cross (A B C D : Nat) (hB : 0 < B) (hD : 0 < D) (h : A * D = C * B) : A / B = C / D ∧ (A % B = 0 ↔ C % D = 0) := by
  have e1 : A / B = C / D := by
    rw [← Nat.mul_div_mul_right A B hD, h, Nat.mul_comm B D, Nat.mul_div_mul_right C D hB]
  refine ⟨e1, ?_⟩
  have a1 := Nat.div_add_mod A B
  have a2 := Nat.div_add_mod C D
  have e2 : (A % B) * D = (C % D) * B := by
    have x1 : A * D = B * (A / B) * D + (A % B) * D := by rw [← Nat.add_mul, a1]
    have x2 : C * B = D * (C / D) * B + (C % D) * B := by rw [← Nat.add_mul, a2]
    rw [h, x2, e1] at x1
    have x3 : D * (C / D) * B = B * (C / D) * D := by ac_rfl
    rw [x3] at x1
    omega
  constructor
  · intro hz; rw [hz, Nat.zero_mul] at e2
    rcases Nat.mul_eq_zero.1 e2.symm with g | g
    · exact g
    · omega
  · intro hz; rw [hz, Nat.zero_mul] at e2
    rcases Nat.mul_eq_zero.1 e2 with g | g
    · exact g
    · omega
/-- N / D made whole: upwards where it is told so -/
def wholeN (s : Bool) (N D : Nat) : Nat := N / D + (if s = true ∧ N % D ≠ 0 then 1 else 0)
theorem clamp (n drop : Nat) : n / (1 <<< min drop (n.log2 + 2)) = n / 2 ^ drop ∧ (n % (1 <<< min drop (n.log2 + 2)) = 0 ↔ n % 2 ^ drop = 0) := by
  rw [Nat.shiftLeft_eq, Nat.one_mul]
  rcases Nat.le_total drop (n.log2 + 2) with h | h
  · rw [Nat.min_eq_left h]; exact ⟨rfl, Iff.rfl⟩
  · rw [Nat.min_eq_right h]
    have hn : n < 2 ^ (n.log2 + 1) := Nat.lt_log2_self
    have e1 : (2 : Nat) ^ (n.log2 + 2) = 2 * 2 ^ (n.log2 + 1) := Nat.pow_succ'
    have e2 : (2 : Nat) ^ (n.log2 + 2) ≤ 2 ^ drop := Nat.pow_le_pow_right (by decide) h
    rw [Nat.div_eq_of_lt (by omega), Nat.mod_eq_of_lt (by omega), Nat.div_eq_of_lt (by omega), Nat.mod_eq_of_lt (by omega)]
    exact ⟨rfl, Iff.rfl⟩
theorem cut_down (s : Bool) (n drop : Nat) : Toward.down.cut s n drop = wholeN s n (2 ^ drop) := by
  obtain ⟨c1, c2⟩ := clamp n drop
  have e : Toward.down.cut s n drop = n / (1 <<< min drop (n.log2 + 2)) + (s && n % (1 <<< min drop (n.log2 + 2)) != 0).toNat := rfl
  rw [e, c1]
  unfold wholeN
  congr 1
  by_cases hz : n % 2 ^ drop = 0
  · rw [c2.2 hz, if_neg (fun h => h.2 hz)]; cases s <;> rfl
  · have hb : (n % (1 <<< min drop (n.log2 + 2)) != 0) = true := bne_iff_ne.2 (fun h => hz (c2.1 h))
    rw [hb]
    cases s
    · rw [if_neg (fun h => Bool.noConfusion h.1)]; rfl
    · rw [if_pos ⟨rfl, hz⟩]; rfl
theorem cut_zero (s : Bool) (n drop : Nat) : Toward.zero.cut s n drop = n / 2 ^ drop := by
  obtain ⟨c1, c2⟩ := clamp n drop
  have e : Toward.zero.cut s n drop = n / (1 <<< min drop (n.log2 + 2)) + 0 := rfl
  rw [e, c1, Nat.add_zero]
theorem place_cross (m v : Nat) (p : Int) (hp : -1074 ≤ p) (h : m * 2 ^ (p + 1074).toNat = v) : (m * 2 ^ p.toNat) * Uf = v * 2 ^ (-p).toNat := by
  obtain ⟨x, hx⟩ : ∃ x, x = 1074 := ⟨_, rfl⟩
  rw [← h, ← pow_Uf x hx, Nat.mul_assoc, ← Nat.pow_add, Nat.mul_assoc, ← Nat.pow_add, show p.toNat + x = (p + 1074).toNat + (-p).toNat by omega]
theorem integral_down (s : Bool) (m v : Nat) (p : Int) (hp : -1074 ≤ p) (h : m * 2 ^ (p + 1074).toNat = v) : Toward.down.cut s (m <<< p.toNat) (-p).toNat = wholeN s v Uf := by
  rw [cut_down, Nat.shiftLeft_eq]
  obtain ⟨e1, e2⟩ := div_cross _ _ _ _ (two_pow_pos' (-p).toNat) Uf_pos (place_cross m v p hp h)
  unfold wholeN
  rw [e1]
  congr 1
  have : (s = true ∧ m * 2 ^ p.toNat % 2 ^ (-p).toNat ≠ 0) ↔ (s = true ∧ v % Uf ≠ 0) := by rw [Ne, Ne, e2]
  by_cases hc : s = true ∧ v % Uf ≠ 0
  · rw [if_pos hc, if_pos (this.2 hc)]
  · rw [if_neg hc, if_neg (fun h => hc (this.1 h))]
theorem integral_zero (s : Bool) (m v : Nat) (p : Int) (hp : -1074 ≤ p) (h : m * 2 ^ (p + 1074).toNat = v) : Toward.zero.cut s (m <<< p.toNat) (-p).toNat = v / Uf := by
  rw [cut_zero, Nat.shiftLeft_eq]
  exact (div_cross _ _ _ _ (two_pow_pos' (-p).toNat) Uf_pos (place_cross m v p hp h)).1
/-- a whole number whose low digits are noughts stands on the ladder -/
theorem exact_word (neg : Bool) (K : Nat) (h0 : K ≠ 0) (hl : K.log2 ≤ 900) (hd : 2 ^ (K.log2 - 52) ∣ K) : ∃ R, double.nearest neg K 0 = double.word neg R ∧ V R = K * Uf ∧ 2 ^ 52 ≤ R ∧ R < infR := by
  have g1 := Nat.log2_self_le h0
  have g2 : K < 2 ^ (K.log2 + 1) := Nat.lt_log2_self
  rw [nearest_eq _ _ _ h0 (by omega)]
  generalize hL : K.log2 = L at *
  obtain ⟨x, hx⟩ : ∃ x, x = 1074 := ⟨_, rfl⟩
  obtain ⟨f, hf, f1, f2, hfv⟩ : ∃ f, rne (K * 2 ^ (52 - (L : Int)).toNat) (2 ^ ((L : Int) - 52).toNat) = f ∧ 2 ^ 52 ≤ f ∧ f < 2 ^ 53 ∧ f * 2 ^ ((L : Int) - 52 + 1074).toNat = K * Uf := by
    rcases Nat.lt_or_ge L 52 with hlt | hge
    · have e1 : ((L : Int) - 52).toNat = 0 := by omega
      have e2 : (52 - (L : Int)).toNat = 52 - L := by omega
      have e4 := rne_exact (K * 2 ^ (52 - L)) 1 (by decide)
      rw [Nat.mul_one] at e4
      refine ⟨K * 2 ^ (52 - L), by rw [e1, e2]; exact e4, ?_, ?_, ?_⟩
      · have := Nat.mul_le_mul_right (2 ^ (52 - L)) g1
        rwa [← Nat.pow_add, show L + (52 - L) = 52 by omega] at this
      · have := Nat.mul_lt_mul_of_pos_right g2 (two_pow_pos' (52 - L))
        rwa [← Nat.pow_add, show L + 1 + (52 - L) = 53 by omega] at this
      · rw [Nat.mul_assoc, ← Nat.pow_add, ← pow_Uf x hx, show 52 - L + ((L : Int) - 52 + 1074).toNat = x by omega]
    · obtain ⟨q, hq⟩ := hd
      have e1 : ((L : Int) - 52).toNat = L - 52 := by omega
      have e2 : (52 - (L : Int)).toNat = 0 := by omega
      have e4 := rne_exact q (2 ^ (L - 52)) (two_pow_pos' _)
      have e5 : K = q * 2 ^ (L - 52) := by rw [hq, Nat.mul_comm]
      refine ⟨q, by rw [e1, e2, Nat.pow_zero, Nat.mul_one, e5]; exact e4, ?_, ?_, ?_⟩
      · apply Nat.le_of_mul_le_mul_right _ (two_pow_pos' (L - 52))
        rw [← e5, ← Nat.pow_add, show 52 + (L - 52) = L by omega]; exact g1
      · apply Nat.lt_of_mul_lt_mul_right (a := 2 ^ (L - 52))
        rw [← e5, ← Nat.pow_add, show 53 + (L - 52) = L + 1 by omega]; exact g2
      · rw [e5, ← pow_Uf x hx, Nat.mul_assoc, ← Nat.pow_add, show ((L : Int) - 52 + 1074).toNat = L - 52 + x by omega]
  rw [hf, show (0 + (L : Int) - 52 + 1074) = (L : Int) - 52 + 1074 by omega]
  have hz : ((L : Int) - 52 + 1074).toNat ≤ 1922 := by omega
  have hi : ((L : Int) - 52 + 1074).toNat * 2 ^ 52 + f < infR := by unfold infR; omega
  rw [Nat.min_eq_left (Nat.le_of_lt hi)]
  exact ⟨_, rfl, by rw [V_sig _ _ f1 (Nat.le_of_lt f2)]; exact hfv, by omega, hi⟩
/-- the whole number that is not above what a word stands for, without its sign -/
def floorM (x : Nat) : Nat := wholeN (ng x) (V (rg x)) Uf
theorem V_1085 : V (1085 * 2 ^ 52) = 2 ^ 62 * Uf := by
  obtain ⟨x, hx⟩ : ∃ x, x = 1084 := ⟨_, rfl⟩
  have h := V_sig x (2 ^ 52) (by omega) (by omega)
  rw [pow_Uf_add x 10 hx, Nat.mul_comm Uf, ← Nat.mul_assoc] at h
  have e1 : x * 2 ^ 52 + 2 ^ 52 = 1085 * 2 ^ 52 := by omega
  have e2 : (2 : Nat) ^ 52 * 2 ^ 10 = 2 ^ 62 := by decide
  rw [e1, e2] at h
  exact h
theorem wholeN_le (s : Bool) (N D Q : Nat) (hD : 0 < D) (h : N ≤ Q * D) : wholeN s N D ≤ Q := by
  obtain ⟨q, r, hN, hr, e1, e2⟩ := rne_cases N D hD
  unfold wholeN
  rw [e1, e2]
  subst hN
  rcases Nat.lt_or_ge q Q with g | g
  · split <;> omega
  · have h3 : D * Q ≤ D * q := Nat.mul_le_mul_left _ g
    have h4 : Q * D = D * Q := Nat.mul_comm _ _
    have hr0 : r = 0 := by omega
    rw [if_neg (fun hh => hh.2 hr0)]
    have h5 : D * q ≤ D * Q := by omega
    have := Nat.le_of_mul_le_mul_left h5 hD
    omega
theorem wholeN_small (s : Bool) (m p : Nat) : wholeN s m (2 ^ p) ≤ m := by
  apply wholeN_le _ _ _ _ (two_pow_pos' _)
  exact Nat.le_mul_of_pos_right _ (two_pow_pos' _)
theorem wholeN_one (s : Bool) (m : Nat) : wholeN s m (2 ^ 0) = m := by
  unfold wholeN
  rw [Nat.pow_zero, Nat.div_one, Nat.mod_one, if_neg (fun h => h.2 rfl)]; rfl
theorem log2_lt_of (K k : Nat) (h : K < 2 ^ k) (h0 : K ≠ 0) : K.log2 < k := (Nat.log2_lt h0).2 h
theorem floor_word (x : Nat) (hx : x < 2 ^ 64) (h : rg x < 1085 * 2 ^ 52) : double.write ((double.read x).integral .down) < 2 ^ 64 ∧
    Go.floatToIntVal .f64 (double.write ((double.read x).integral .down)) .i64 = some (if ng x = true then -(floorM x : Int) else (floorM x : Int)) ∧ floorM x ≤ 2 ^ 62 := by
  have hi : rg x < infR := by unfold infR; omega
  obtain ⟨m, p, e, p1, v, m1, p2, m2⟩ := read_num x hx hi
  have hM : Toward.down.cut (ng x) (m <<< p.toNat) (-p).toNat = floorM x := integral_down _ _ _ _ p1 v
  have hle : floorM x ≤ 2 ^ 62 := by
    apply wholeN_le _ _ _ _ Uf_pos
    rw [← V_1085]; exact V_le (Nat.le_of_lt h)
  refine ⟨?_, ?_, hle⟩
  · have := double.write_lt ((double.read x).integral .down)
    exact this
  rw [e]
  show Go.floatToIntVal .f64 (double.nearest (ng x) (Toward.down.cut (ng x) (m <<< p.toNat) (-p).toNat) 0) .i64 = _
  rw [hM]
  unfold Go.floatToIntVal
  show (match (double.read (double.nearest (ng x) (floorM x) 0)).toInt .zero with | some n => _ | none => none) = _
  have key : (double.read (double.nearest (ng x) (floorM x) 0)).toInt .zero = some (if ng x = true then -(floorM x : Int) else (floorM x : Int)) := by
    by_cases h0 : floorM x = 0
    · rw [h0]
      have : double.nearest (ng x) 0 0 = double.word (ng x) 0 := by unfold Format.nearest; rw [if_pos rfl]
      rw [this]
      cases ng x <;> rfl
    · have hlog : (floorM x).log2 < 63 := log2_lt_of _ _ (by omega) h0
      have hdiv : 2 ^ ((floorM x).log2 - 52) ∣ floorM x := by
        rcases Int.lt_or_le p 1 with hp | hp
        · have : floorM x ≤ m := by
            rw [← hM, cut_down, show p.toNat = 0 by omega, Nat.shiftLeft_eq, Nat.pow_zero, Nat.mul_one]
            rcases Nat.eq_zero_or_pos (-p).toNat with g | g
            · rw [g, wholeN_one]; exact Nat.le_refl _
            · exact wholeN_small _ _ _
          have : (floorM x).log2 < 53 := log2_lt_of _ _ (by omega) h0
          rw [show (floorM x).log2 - 52 = 0 by omega]; exact Nat.one_dvd _
        · have e2 : floorM x = m * 2 ^ p.toNat := by
            rw [← hM, cut_down, show (-p).toNat = 0 by omega, wholeN_one, Nat.shiftLeft_eq]
          have hm0 : m ≠ 0 := by
            intro hz; rw [hz, Nat.zero_mul] at e2; exact h0 e2
          have : (floorM x).log2 < 53 + p.toNat := by
            apply log2_lt_of _ _ _ h0
            rw [e2, Nat.pow_add]
            exact Nat.mul_lt_mul_of_pos_right m1 (two_pow_pos' _)
          have d1 : 2 ^ p.toNat ∣ floorM x := by rw [e2]; exact Nat.dvd_mul_left _ _
          exact Nat.dvd_trans (Nat.pow_dvd_pow 2 (by omega)) d1
      obtain ⟨R, er, vr, r1, r2⟩ := exact_word (ng x) (floorM x) h0 (by omega) hdiv
      rw [er]
      obtain ⟨w1, w2, w3⟩ := word_ng (ng x) R (by unfold infR at r2; omega)
      obtain ⟨m', p', e', p1', v', _, _, _⟩ := read_num (double.word (ng x) R) w3 (by rw [w2]; exact r2)
      rw [w1] at e'
      rw [w2, vr] at v'
      rw [e']
      show some (signed (ng x) (Toward.zero.cut (ng x) (m' <<< p'.toNat) (-p').toNat) 0) = _
      rw [integral_zero _ _ _ _ p1' v', Nat.mul_div_cancel _ Uf_pos]
      unfold signed
      rfl
  rw [key]
  have b1 : Go.IntKind.min .i64 = -9223372036854775808 := rfl
  have b2 : Go.IntKind.max .i64 = 9223372036854775807 := rfl
  show (if Go.IntKind.min .i64 ≤ _ ∧ _ ≤ Go.IntKind.max .i64 then _ else none) = _
  rw [b1, b2, if_pos]
  split <;> omega
theorem V_next (r : Nat) (h : 2 ^ 52 ≤ r) : V (r + 1) = V r + 2 ^ (r / 2 ^ 52 - 1) := by
  unfold V
  rw [if_neg (by omega), if_neg (by omega)]
  by_cases h3 : r % 2 ^ 52 + 1 < 2 ^ 52
  · have e1 : (r + 1) / 2 ^ 52 = r / 2 ^ 52 := by omega
    have e2 : (r + 1) % 2 ^ 52 = r % 2 ^ 52 + 1 := by omega
    rw [e1, e2, ← Nat.add_assoc, Nat.add_mul _ 1, Nat.one_mul]
  · have e1 : (r + 1) / 2 ^ 52 = r / 2 ^ 52 + 1 := by omega
    have e2 : (r + 1) % 2 ^ 52 = 0 := by omega
    obtain ⟨q, hq⟩ : ∃ q, r / 2 ^ 52 = q + 1 := ⟨r / 2 ^ 52 - 1, by omega⟩
    have e3 : r % 2 ^ 52 = 2 ^ 52 - 1 := by omega
    rw [e1, e2, hq, e3]
    have e4 : (2 : Nat) ^ (q + 1) = 2 * 2 ^ q := Nat.pow_succ'
    show (2 ^ 52 + 0) * 2 ^ (q + 1) = (2 ^ 52 + (2 ^ 52 - 1)) * 2 ^ q + 2 ^ q
    rw [e4]
    generalize (2 : Nat) ^ q = X
    omega
theorem V_big (r : Nat) (h : 2 ^ 52 ≤ r) : 2 ^ (52 + (r / 2 ^ 52 - 1)) ≤ V r := by
  unfold V
  rw [if_neg (by omega), Nat.pow_add]
  exact Nat.mul_le_mul_right _ (by omega)
/-- the step behind a number of at most 26 digits is small -/
theorem step_small (r q : Nat) (h : 2 ^ 52 ≤ r) (hq : q ≤ 2 ^ 26) (hv : V r ≤ q * Uf) : 2 ^ (r / 2 ^ 52 - 1) * 2 ^ 26 ≤ Uf := by
  obtain ⟨x, hx⟩ : ∃ x, x = 1074 := ⟨_, rfl⟩
  have h1 := V_big r h
  rw [← pow_Uf x hx] at hv ⊢
  have h2 : q * 2 ^ x ≤ 2 ^ 26 * 2 ^ x := Nat.mul_le_mul_right _ hq
  rw [← Nat.pow_add] at h2 ⊢
  have h3 := (Nat.pow_le_pow_iff_right (by decide : 1 < 2)).1 (Nat.le_trans h1 (Nat.le_trans hv h2))
  exact Nat.pow_le_pow_right (by decide) (by omega)
theorem whole_rung (q : Nat) (h0 : q ≠ 0) (h : q ≤ 2 ^ 53) : ∃ R, V R = q * Uf ∧ 2 ^ 52 ≤ R ∧ R < infR := by
  obtain ⟨R, _, v, r1, r2⟩ := whole_word (q : Int) (by omega) (by rw [Int.natAbs_natCast]; exact h)
  rw [Int.natAbs_natCast] at v
  exact ⟨R, v, r1, r2⟩
theorem IsR_whole (A B q R : Nat) (hB : 0 < B) (h0 : q ≠ 0) (h : q ≤ 2 ^ 53) (hA : A = q * B) (hR : IsR A B R) : V R = q * Uf := by
  obtain ⟨S, v, s1, s2⟩ := whole_rung q h0 h
  have := IsR_V S s1
  rw [v] at this
  have e : R = S := IsR_unique hB Uf_pos (by rw [hA, Nat.mul_assoc, Nat.mul_comm B, ← Nat.mul_assoc]) hR this
  rw [e, v]
theorem up_lem (A B q r U X : Nat) (hN : A = B * q + r) (hr : r < B) : A * U * X + U * X ≤ (q + 1) * U * B * X := by
  have h1 : A * U * X + U * X = (A + 1) * U * X := by rw [Nat.add_mul, Nat.add_mul, Nat.one_mul]
  rw [h1, Nat.mul_right_comm (q + 1)]
  apply Nat.mul_le_mul_right
  apply Nat.mul_le_mul_right
  rw [Nat.add_mul, Nat.one_mul, Nat.mul_comm q B]; omega
theorem sub_lem (a b c d e : Nat) (h1 : a + b = c) (h2 : d + e ≤ c) (h3 : b ≤ e) : d ≤ a := by omega
theorem quot_floor (s : Bool) (A B R : Nat) (hA0 : A ≠ 0) (hB0 : 0 < B) (hA : A ≤ 2 ^ 26) (hB : B ≤ 2 ^ 26) (hR : IsR A B R) (hR0 : 2 ^ 52 ≤ R) : wholeN s (V R) Uf = wholeN s A B := by
  obtain ⟨q, r, hN, hr, e1, e2⟩ := rne_cases A B hB0
  have hqA : q ≤ A := by
    have : 1 * q ≤ B * q := Nat.mul_le_mul_right _ hB0
    omega
  by_cases hr0 : r = 0
  · have hq0 : q ≠ 0 := by intro h; rw [h, hr0] at hN; exact hA0 hN
    have hV := IsR_whole A B q R hB0 hq0 (by omega) (by rw [hN, hr0, Nat.add_zero, Nat.mul_comm]) hR
    unfold wholeN
    rw [hV, e1, e2, Nat.mul_div_cancel _ Uf_pos, Nat.mul_mod_left, hr0]
  · have lo : q * Uf < V R := by
      by_cases hq0 : q = 0
      · rw [hq0, Nat.zero_mul]
        have := @V_lt_iff 0 R
        rw [V_zero] at this
        exact this.2 (by omega)
      · obtain ⟨S, v, s1, s2⟩ := whole_rung q hq0 (by omega)
        have hs := step_small S q s1 (by omega) (Nat.le_of_eq v)
        have hn := V_next S s1
        have hle : S + 1 ≤ R := by
          apply IsR_mono Uf_pos hB0 _ (IsR_V (S + 1) (by omega)) hR
          apply Nat.le_of_mul_le_mul_right _ (two_pow_pos' 26)
          rw [hn, v, hN]
          generalize (2 : Nat) ^ (S / 2 ^ 52 - 1) = E at *
          have y1 : (q * Uf + E) * B * 2 ^ 26 = q * Uf * B * 2 ^ 26 + E * 2 ^ 26 * B := by
            rw [Nat.add_mul, Nat.add_mul, Nat.mul_right_comm E]
          have y2 : (B * q + r) * Uf * 2 ^ 26 = q * Uf * B * 2 ^ 26 + r * Uf * 2 ^ 26 := by
            rw [Nat.add_mul, Nat.add_mul, Nat.mul_comm B q, Nat.mul_right_comm q B]
          rw [y1, y2]
          apply Nat.add_le_add_left
          calc E * 2 ^ 26 * B ≤ Uf * B := Nat.mul_le_mul_right _ hs
            _ ≤ Uf * 2 ^ 26 := Nat.mul_le_mul_left _ hB
            _ ≤ r * Uf * 2 ^ 26 := Nat.mul_le_mul_right _ (Nat.le_mul_of_pos_left _ (by omega))
        rw [← v]; exact V_lt (by omega)
    have hi : V R < (q + 1) * Uf := by
      have hq1 : q + 1 ≤ 2 ^ 26 ∨ B = 1 := by
        rcases Nat.lt_or_ge B 2 with g | g
        · exact .inr (by omega)
        · have : 2 * q ≤ B * q := Nat.mul_le_mul_right _ g
          exact .inl (by omega)
      rcases hq1 with hq1 | hq1
      rotate_left
      · omega
      obtain ⟨S, v, s1, s2⟩ := whole_rung (q + 1) (by omega) (by omega)
      have hS0 : 2 ^ 52 < S := by
        apply V_lt_iff.1
        rw [v]
        have h1 : V (2 ^ 52) = 2 ^ 52 := by decide
        have h2 : 1 * Uf ≤ (q + 1) * Uf := Nat.mul_le_mul_right _ (by omega)
        obtain ⟨x, hx⟩ : ∃ x, x = 1021 := ⟨_, rfl⟩
        have h3 : (2 : Nat) ^ (53 + x) = Uf := pow_Uf _ (by omega)
        have h4 : (2 : Nat) ^ 52 < 2 ^ (53 + x) := Nat.pow_lt_pow_right (by decide) (by omega)
        rw [h1]; omega
      obtain ⟨P, hP⟩ : ∃ P, S = P + 1 := ⟨S - 1, by omega⟩
      subst hP
      have hn := V_next P (by omega)
      have hs := step_small P (q + 1) (by omega) hq1 (by rw [← v, hn]; exact Nat.le_add_right _ _)
      have hle : R ≤ P := by
        apply IsR_mono hB0 Uf_pos _ hR (IsR_V P (by omega))
        apply Nat.le_of_mul_le_mul_right _ (two_pow_pos' 26)
        rw [v] at hn
        generalize (2 : Nat) ^ (P / 2 ^ 52 - 1) = E at *
        generalize V P = W at *
        have y1 : W * B * 2 ^ 26 + E * 2 ^ 26 * B = (q + 1) * Uf * B * 2 ^ 26 := by
          rw [hn, Nat.add_mul, Nat.add_mul, Nat.mul_right_comm E]
        have y2 := up_lem A B q r Uf (2 ^ 26) hN hr
        have y3 : E * 2 ^ 26 * B ≤ Uf * 2 ^ 26 := Nat.le_trans (Nat.mul_le_mul_right _ hs) (Nat.mul_le_mul_left _ hB)
        exact sub_lem _ _ _ _ _ y1 y2 y3
      rw [← v]; exact V_lt (by omega)
    have d1 : V R / Uf = q := by
      apply Nat.div_eq_of_lt_le
      · exact Nat.le_of_lt lo
      · exact hi
    have d2 : V R % Uf ≠ 0 := by
      intro hz
      have := Nat.div_add_mod (V R) Uf
      rw [d1, hz, Nat.mul_comm] at this
      omega
    unfold wholeN
    rw [d1, e1, e2]
    congr 1
    cases s
    · rw [if_neg (fun h => Bool.noConfusion h.1), if_neg (fun h => Bool.noConfusion h.1)]
    · rw [if_pos ⟨rfl, d2⟩, if_pos ⟨rfl, hr0⟩]
def clampI (n : Int) : Int := min (max n (-9007199254740992)) 9007199254740992
theorem clamp_abs (n : Int) : (clampI n).natAbs ≤ 2 ^ 53 := by unfold clampI; omega
theorem clamp_id (n : Int) (h1 : -9007199254740992 ≤ n) (h2 : n ≤ 9007199254740992) : clampI n = n := by unfold clampI; omega
theorem clamp_zero (n : Int) : clampI n = 0 ↔ n = 0 := by unfold clampI; omega
theorem clamp_neg (n : Int) : clampI n < 0 ↔ n < 0 := by unfold clampI; omega
/-- the word of a number -/
def wholeW (n : Int) : Nat := Go.FloatKind.nearest .f64 (clampI n)
/-- the word of a quotient; one word for all that is no number -/
def quotW (a b : Int) : Nat := match double.div (wholeW a) (wholeW b) with
  | some r => r
  | none => 9221120237041090560
theorem wholeW_zero : wholeW 0 = 0 := rfl
/-- what a quotient's word is -/
theorem quotW_spec (a b : Int) : quotW a b < 2 ^ 64 ∧ ((b = 0 ∧ a = 0 ∧ quotW a b = 9221120237041090560) ∨ (b = 0 ∧ a ≠ 0 ∧ quotW a b = double.word (decide (a < 0)) infR) ∨ (b ≠ 0 ∧ a = 0 ∧ quotW a b = double.word (decide (b < 0)) 0) ∨
    (a ≠ 0 ∧ b ≠ 0 ∧ ∃ R, quotW a b = double.word (decide (a < 0) ^^ decide (b < 0)) R ∧ IsR (clampI a).natAbs (clampI b).natAbs R ∧ 2 ^ 52 ≤ R ∧ R < infR)) := by
  have za := clamp_zero a
  have zb := clamp_zero b
  have na := clamp_neg a
  have nb := clamp_neg b
  unfold quotW wholeW
  by_cases hb : b = 0
  · rw [zb.2 hb]
    by_cases ha : a = 0
    · rw [za.2 ha, div_zero_zero]
      exact ⟨by decide, .inl ⟨hb, ha, rfl⟩⟩
    · rw [div_zero_right _ (fun h => ha (za.1 h)) (clamp_abs a)]
      simp only [na]
      exact ⟨(word_ng _ _ (by decide)).2.2, .inr (.inl ⟨hb, ha, by trivial⟩)⟩
  · by_cases ha : a = 0
    · rw [za.2 ha, div_zero_left _ (fun h => hb (zb.1 h)) (clamp_abs b)]
      simp only [nb]
      exact ⟨(word_ng _ _ (by decide)).2.2, .inr (.inr (.inl ⟨hb, ha, by trivial⟩))⟩
    · obtain ⟨R, e, i1, r1, r2⟩ := div_whole (clampI a) (clampI b) (fun h => ha (za.1 h)) (fun h => hb (zb.1 h)) (clamp_abs a) (clamp_abs b)
      rw [e]
      simp only [na, nb]
      exact ⟨(word_ng _ _ (by unfold infR at r2; omega)).2.2, .inr (.inr (.inr ⟨ha, hb, R, rfl, i1, r1, r2⟩))⟩
/-- is it no number? -/
def nanW (x : Nat) : Bool := decide (infR < rg x)
/-- where a word stands in the order of all -/
def keyW (x : Nat) : Int := if infR < rg x then 2 ^ 63 else if ng x = true then -(rg x : Int) - 1 else (rg x : Int)
def cmpI (a b : Int) : Int := if a < b then -1 else if a > b then 1 else 0
theorem keyW_word (s : Bool) (r : Nat) (h : r ≤ infR) : keyW (double.word s r) = if s = true then -(r : Int) - 1 else (r : Int) := by
  obtain ⟨w1, w2, _⟩ := word_ng s r (by unfold infR at h; omega)
  unfold keyW
  rw [w1, w2, if_neg (by omega)]
/-- how two words compare, as the program tells it -/
def cmpW (x y : Nat) : Int :=
  if nanW x = true then (if nanW y = true then 0 else 1) else if nanW y = true then -1
  else if (double.order x y == some .eq) = true ∧ ng x ≠ ng y then (if ng x = true then -1 else 1)
  else if (double.order x y == some .lt) = true then -1 else if (double.order x y == some .gt) = true then 1 else 0
theorem compare_cases (A B : Int) : (A < B ∧ compare A B = .lt) ∨ (A = B ∧ compare A B = .eq) ∨ (B < A ∧ compare A B = .gt) := by
  have e : compare A B = compareOfLessAndEq A B := rfl
  rw [e]; unfold compareOfLessAndEq
  rcases Int.lt_trichotomy A B with h | h | h
  · exact .inl ⟨h, by rw [if_pos h]⟩
  · exact .inr (.inl ⟨h, by rw [if_neg (by omega), if_pos h]⟩)
  · exact .inr (.inr ⟨h, by rw [if_neg (by omega), if_neg (by omega)]⟩)
theorem cmpW_eq (x y : Nat) (hx : x < 2 ^ 64) (hy : y < 2 ^ 64) : cmpW x y = cmpI (keyW x) (keyW y) := by
  have bx : rg x < 2 ^ 63 := Nat.mod_lt _ (by decide)
  have bY : rg y < 2 ^ 63 := Nat.mod_lt _ (by decide)
  unfold cmpW nanW
  by_cases nx : infR < rg x
  · rw [decide_eq_true nx, if_pos rfl]
    by_cases ny : infR < rg y
    · rw [decide_eq_true ny, if_pos rfl]
      unfold cmpI keyW; rw [if_pos nx, if_pos ny]; rfl
    · rw [decide_eq_false ny, if_neg (by simp)]
      unfold cmpI keyW; rw [if_pos nx, if_neg ny]
      have : (if ng y = true then -(rg y : Int) - 1 else (rg y : Int)) < 2 ^ 63 := by split <;> omega
      rw [if_neg (by omega), if_pos (by omega)]
  · rw [decide_eq_false nx, if_neg (by simp)]
    by_cases ny : infR < rg y
    · rw [decide_eq_true ny, if_pos rfl]
      unfold cmpI keyW; rw [if_neg nx, if_pos ny]
      have : (if ng x = true then -(rg x : Int) - 1 else (rg x : Int)) < 2 ^ 63 := by split <;> omega
      rw [if_pos (by omega)]
    · rw [decide_eq_false ny, if_neg (by simp), order_eq x y hx hy (by omega) (by omega)]
      unfold keyW
      rw [if_neg nx, if_neg ny]
      have hc := compare_cases (sr x) (sr y)
      unfold sr at hc ⊢
      unfold cmpI
      cases hs : ng x <;> cases ht : ng y <;> simp only [hs, ht, Bool.false_eq_true, if_false, if_true, ne_eq, not_true, and_false, not_false_eq_true, and_true, reduceCtorEq] at hc ⊢
      · rcases hc with ⟨h, e⟩ | ⟨h, e⟩ | ⟨h, e⟩ <;> rw [e]
        · rw [if_pos (by decide), if_pos h]
        · rw [if_neg (by decide), if_neg (by decide), if_neg (by omega), if_neg (by omega)]
        · rw [if_neg (by decide), if_pos (by decide), if_neg (by omega), if_pos (by omega)]
      · rw [if_neg (by omega : ¬ ((rg x : Int) < -(rg y : Int) - 1)), if_pos (by omega : (rg x : Int) > -(rg y : Int) - 1)]
        rcases hc with ⟨h, e⟩ | ⟨h, e⟩ | ⟨h, e⟩ <;> rw [e]
        · omega
        · rfl
        · rfl
      · rw [if_pos (by omega : -(rg x : Int) - 1 < (rg y : Int))]
        rcases hc with ⟨h, e⟩ | ⟨h, e⟩ | ⟨h, e⟩ <;> rw [e]
        · rfl
        · rfl
        · omega
      · rcases hc with ⟨h, e⟩ | ⟨h, e⟩ | ⟨h, e⟩ <;> rw [e]
        · rw [if_pos (by decide), if_pos (by omega)]
        · rw [if_neg (by decide), if_neg (by decide), if_neg (by omega), if_neg (by omega)]
        · rw [if_neg (by decide), if_pos (by decide), if_neg (by omega), if_pos (by omega)]
theorem keyW_finite (s : Bool) (R : Nat) (h : R < infR) : keyW (double.word s R) = if s = true then -(R : Int) - 1 else (R : Int) := keyW_word s R (Nat.le_of_lt h)
theorem infR_pos : 0 < infR := by decide
/-- a quotient by a number above 0, as a key -/
theorem key_quot (a b : Int) (hb : 0 < b) : (a = 0 ∧ keyW (quotW a b) = 0) ∨ (a ≠ 0 ∧ ∃ R, IsR (clampI a).natAbs (clampI b).natAbs R ∧ 2 ^ 52 ≤ R ∧ R < infR ∧ keyW (quotW a b) = if a < 0 then -(R : Int) - 1 else (R : Int)) := by
  obtain ⟨_, h | h | h | h⟩ := quotW_spec a b
  · omega
  · omega
  · refine .inl ⟨h.2.1, ?_⟩
    rw [h.2.2, keyW_word _ _ (Nat.zero_le _), decide_eq_false (by omega)]; rfl
  · obtain ⟨ha, _, R, e, i, r1, r2⟩ := h
    refine .inr ⟨ha, R, i, r1, r2, ?_⟩
    rw [e, keyW_finite _ _ r2, decide_eq_false (by omega : ¬ b < 0), Bool.xor_false]
    simp only [decide_eq_true_eq]
theorem rises (a c b : Int) (h : a ≤ c) (hb : 0 < b) (h1 : -9007199254740992 ≤ a) (h2 : c ≤ 9007199254740992) (h3 : b ≤ 9007199254740992) : keyW (quotW a b) ≤ keyW (quotW c b) := by
  have ea := clamp_id a h1 (by omega)
  have ec := clamp_id c (by omega) h2
  have eb := clamp_id b (by omega) h3
  have hB : 0 < b.natAbs := by omega
  rcases key_quot a b hb with ⟨ha, e1⟩ | ⟨ha, R, i1, r1, r2, e1⟩ <;> rcases key_quot c b hb with ⟨hc, e2⟩ | ⟨hc, S, i2, s1, s2, e2⟩ <;> rw [e1, e2]
  · exact Int.le_refl _
  · rw [if_neg (by omega)]; omega
  · rw [if_pos (by omega)]; omega
  · rw [ea, eb] at i1
    rw [ec, eb] at i2
    by_cases n1 : a < 0
    · rw [if_pos n1]
      by_cases n2 : c < 0
      · rw [if_pos n2]
        have := IsR_mono hB hB (Nat.mul_le_mul_right _ (by omega)) i2 i1
        omega
      · rw [if_neg n2]; omega
    · rw [if_neg n1, if_neg (by omega)]
      have := IsR_mono hB hB (Nat.mul_le_mul_right _ (by omega)) i1 i2
      omega
theorem falls (a b d : Int) (h : b ≤ d) (ha : 0 < a) (hb : 0 < b) (h2 : a ≤ 9007199254740992) (h3 : d ≤ 9007199254740992) : keyW (quotW a d) ≤ keyW (quotW a b) := by
  have ea := clamp_id a (by omega) h2
  have ed := clamp_id d (by omega) h3
  have eb := clamp_id b (by omega) (by omega)
  rcases key_quot a d (by omega) with ⟨ha', e1⟩ | ⟨_, R, i1, r1, r2, e1⟩
  · omega
  rcases key_quot a b hb with ⟨hc, e2⟩ | ⟨hc, S, i2, s1, s2, e2⟩
  · omega
  rw [e1, e2, if_neg (by omega), if_neg (by omega)]
  rw [ea, ed] at i1
  rw [ea, eb] at i2
  have := IsR_mono (by omega) (by omega) (Nat.mul_le_mul_left _ (by omega)) i1 i2
  omega
/-- the word of a quotient of numbers other than 0 -/
theorem quot_ne (a b : Int) (ha : a ≠ 0) (hb : b ≠ 0) (h1 : -9007199254740992 ≤ a) (h2 : a ≤ 9007199254740992) (h3 : -9007199254740992 ≤ b) (h4 : b ≤ 9007199254740992) : ∃ R, quotW a b = double.word (decide (a < 0) ^^ decide (b < 0)) R ∧ IsR a.natAbs b.natAbs R ∧ 2 ^ 52 ≤ R ∧ R < infR := by
  obtain ⟨_, h | h | h | h⟩ := quotW_spec a b
  · omega
  · omega
  · omega
  · obtain ⟨_, _, R, e, i, r⟩ := h
    rw [clamp_id a h1 h2, clamp_id b h3 h4] at i
    exact ⟨R, e, i, r⟩
theorem neg_dec (a : Int) (ha : a ≠ 0) : decide (-a < 0) = !decide (a < 0) := by
  by_cases h : a < 0
  · rw [decide_eq_true h, decide_eq_false (by omega)]; rfl
  · rw [decide_eq_false h, decide_eq_true (by omega)]; rfl
theorem opp (a b : Int) (ha : a ≠ 0) (hb : b ≠ 0) (h1 : -9007199254740992 ≤ a) (h2 : a ≤ 9007199254740992) (h3 : -9007199254740992 ≤ b) (h4 : b ≤ 9007199254740992) : quotW (-a) (-b) = quotW a b := by
  obtain ⟨R, e1, i1, _⟩ := quot_ne a b ha hb h1 h2 h3 h4
  obtain ⟨S, e2, i2, _⟩ := quot_ne (-a) (-b) (by omega) (by omega) (by omega) (by omega) (by omega) (by omega)
  rw [Int.natAbs_neg, Int.natAbs_neg] at i2
  have := IsR_unique (by omega) (by omega) rfl i1 i2
  rw [e1, e2, neg_dec a ha, neg_dec b hb, this]
  cases decide (a < 0) <;> cases decide (b < 0) <;> rfl
theorem signs (a b : Int) (ha : a ≠ 0) (hb : b ≠ 0) (h1 : -9007199254740992 ≤ a) (h2 : a ≤ 9007199254740992) (h3 : -9007199254740992 ≤ b) (h4 : b ≤ 9007199254740992) :
    ∃ R, R < 2 ^ 63 ∧ quotW a b = double.word (decide (a < 0) ^^ decide (b < 0)) R ∧ quotW (-a) b = double.word (!(decide (a < 0) ^^ decide (b < 0))) R ∧ quotW a (-b) = double.word (!(decide (a < 0) ^^ decide (b < 0))) R := by
  obtain ⟨R, e1, i1, _, r1⟩ := quot_ne a b ha hb h1 h2 h3 h4
  obtain ⟨S, e2, i2, _⟩ := quot_ne (-a) b (by omega) hb (by omega) (by omega) h3 h4
  obtain ⟨T, e3, i3, _⟩ := quot_ne a (-b) ha (by omega) h1 h2 (by omega) (by omega)
  rw [Int.natAbs_neg] at i2 i3
  have u1 := IsR_unique (by omega) (by omega) rfl i1 i2
  have u2 := IsR_unique (by omega) (by omega) rfl i1 i3
  refine ⟨R, by unfold infR at r1; omega, e1, ?_, ?_⟩
  · rw [e2, neg_dec a ha, ← u1]; cases decide (a < 0) <;> cases decide (b < 0) <;> rfl
  · rw [e3, neg_dec b hb, ← u2]; cases decide (a < 0) <;> cases decide (b < 0) <;> rfl
theorem word_flip (s : Bool) (R : Nat) (h : R < 2 ^ 63) : double.word (!s) R ^^^ 2 ^ 63 = double.word s R ∧ (2 ^ 63 ≤ double.word s R ↔ s = true) := by
  have e : double.signWeight = 2 ^ 63 := rfl
  have t1 : R.testBit 63 = false := Nat.testBit_lt_two_pow h
  have x1 : R ^^^ 2 ^ 63 = 2 ^ 63 + R := by
    have h1 : 2 ^ 63 + R = 2 ^ 63 ||| R := by
      have := Nat.two_pow_add_eq_or_of_lt h 1
      simpa using this
    rw [h1]
    apply Nat.eq_of_testBit_eq
    intro i
    rw [Nat.testBit_xor, Nat.testBit_or, Nat.testBit_two_pow]
    by_cases hi : 63 = i
    · subst hi; rw [t1]; simp
    · simp [hi]
  have x2 : (2 ^ 63 + R) ^^^ 2 ^ 63 = R := by
    rw [← x1, Nat.xor_assoc, Nat.xor_self, Nat.xor_zero]
  unfold Format.word
  rw [e]
  cases s
  · simp only [Bool.not_false, if_true, Bool.false_eq_true, if_false, iff_false]
    exact ⟨x2, by omega⟩
  · simp only [Bool.not_true, if_true, Bool.false_eq_true, if_false, iff_true]
    exact ⟨x1, by omega⟩
/-- the whole number that is not above a word, and whether there is one -/
def floorI (x : Nat) : Int × Bool := if rg x < 1085 * 2 ^ 52 then (if ng x = true then -(floorM x : Int) else (floorM x : Int), true) else (0, false)
theorem IsR_small (A B R : Nat) (hB : 0 < B) (h : A ≤ 2 ^ 53) (hR : IsR A B R) : R < 1085 * 2 ^ 52 := by
  obtain ⟨S, v, s1, s2⟩ := whole_rung (2 ^ 53) (by decide) (Nat.le_refl _)
  have h2 := IsR_V S s1
  rw [v] at h2
  have h3 : R ≤ S := by
    apply IsR_mono hB Uf_pos _ hR h2
    calc A * Uf ≤ 2 ^ 53 * Uf := Nat.mul_le_mul_right _ h
      _ ≤ 2 ^ 53 * Uf * B := Nat.le_mul_of_pos_right _ hB
  have h4 : S < 1085 * 2 ^ 52 := by
    apply V_lt_iff.1
    rw [v, V_1085]
    exact Nat.mul_lt_mul_of_pos_right (by decide) Uf_pos
  omega
theorem floor_zero : floorI (double.word false 0) = (0, true) := by
  have h : floorM (double.word false 0) = 0 := by
    unfold floorM
    have : rg (double.word false 0) = 0 := rfl
    rw [this, V_zero]
    unfold wholeN
    rw [Nat.zero_div, Nat.zero_mod, if_neg (fun h => h.2 rfl)]
  unfold floorI
  rw [if_pos (by decide), h]; rfl
/-- the floor of a quotient of small numbers -/
theorem floors (a b : Int) (h1 : -67108864 ≤ a) (h2 : a ≤ 67108864) (hb : 0 < b) (h3 : b ≤ 67108864) : floorI (quotW a b) = (a / b, true) := by
  obtain ⟨_, h | h | h | h⟩ := quotW_spec a b
  · omega
  · omega
  · rw [h.2.2, decide_eq_false (by omega), floor_zero, h.2.1, Int.zero_ediv]
  · obtain ⟨ha, _, R, e, i, r1, r2⟩ := h
    rw [clamp_id a (by omega) (by omega), clamp_id b (by omega) (by omega)] at i
    rw [decide_eq_false (by omega : ¬ b < 0), Bool.xor_false] at e
    have hB : 0 < b.natAbs := by omega
    have hs := IsR_small _ _ _ hB (by omega) i
    obtain ⟨w1, w2, _⟩ := word_ng (decide (a < 0)) R (by omega)
    unfold floorI floorM
    rw [e, w1, w2, if_pos hs, quot_floor _ _ _ _ (by omega) hB (by omega) (by omega) i r1]
    congr 1
    unfold wholeN
    obtain ⟨B, rfl⟩ : ∃ B : Nat, b = B := ⟨b.natAbs, by omega⟩
    rw [Int.natAbs_natCast] at *
    by_cases hn : a < 0
    · obtain ⟨A, rfl⟩ : ∃ A : Nat, a = -(A : Int) := ⟨a.natAbs, by omega⟩
      rw [Int.natAbs_neg, Int.natAbs_natCast]
      simp only [decide_eq_true hn, true_and, if_true]
      have d := Nat.div_add_mod A B
      have dl := Nat.mod_lt A hB
      generalize hq : A / B = q at *
      generalize hr : A % B = r at *
      have hd : -(A : Int) = (B : Int) * (-(q : Int)) + -(r : Int) := by
        rw [← d, Int.natCast_add, Int.natCast_mul, Int.mul_neg]; omega
      by_cases hr0 : r = 0
      · rw [if_neg (by omega), hd, hr0]
        simp only [Int.natCast_zero, Int.neg_zero, Int.add_zero, Nat.add_zero]
        rw [Int.mul_ediv_cancel_left _ (by omega)]
      · rw [if_pos hr0]
        have : -(A : Int) = (B : Int) * (-((q + 1 : Nat) : Int)) + ((B : Int) - r) := by
          rw [hd, Int.mul_neg, Int.mul_neg, Int.natCast_add, Int.mul_add, Int.natCast_one, Int.mul_one]; omega
        rw [this, Int.add_comm, Int.add_mul_ediv_left _ _ (by omega), Int.ediv_eq_zero_of_lt (by omega) (by omega), Int.zero_add]
    · obtain ⟨A, rfl⟩ : ∃ A : Nat, a = (A : Int) := ⟨a.natAbs, by omega⟩
      rw [Int.natAbs_natCast]
      simp only [decide_eq_false hn, Bool.false_eq_true, false_and, if_false, Nat.add_zero]
      rfl
theorem wholeW_spec (n : Int) (h1 : -9007199254740992 ≤ n) (h2 : n ≤ 9007199254740992) : (n = 0 ∧ wholeW n = double.word false 0) ∨ (n ≠ 0 ∧ ∃ R, wholeW n = double.word (decide (n < 0)) R ∧ V R = n.natAbs * Uf ∧ 2 ^ 52 ≤ R ∧ R < 1085 * 2 ^ 52) := by
  unfold wholeW
  rw [clamp_id n h1 h2]
  by_cases h : n = 0
  · subst h; exact .inl ⟨rfl, rfl⟩
  · obtain ⟨R, e, v, r1, r2⟩ := whole_word n h (by omega)
    refine .inr ⟨h, R, e, v, r1, ?_⟩
    apply V_lt_iff.1
    rw [v, V_1085]
    exact Nat.mul_lt_mul_of_pos_right (by omega) Uf_pos
theorem wholeW_lt (n : Int) : wholeW n < 2 ^ 64 := by
  have := double.write_lt (.number (decide (clampI n < 0)) (clampI n).natAbs 0)
  exact this
theorem floor_exact (s : Bool) (R K : Nat) (hv : V R = K * Uf) (h : R < 1085 * 2 ^ 52) : floorI (double.word s R) = (if s = true then -(K : Int) else (K : Int), true) := by
  obtain ⟨w1, w2, _⟩ := word_ng s R (by omega)
  unfold floorI floorM
  have e : wholeN s (K * Uf) Uf = K := by
    unfold wholeN
    rw [Nat.mul_div_cancel _ Uf_pos, Nat.mul_mod_left, if_neg (fun h => h.2 rfl)]; rfl
  rw [w1, w2, if_pos h, hv, e]
theorem floor_whole (n : Int) (h1 : -9007199254740992 ≤ n) (h2 : n ≤ 9007199254740992) : floorI (wholeW n) = (n, true) := by
  rcases wholeW_spec n h1 h2 with ⟨h, e⟩ | ⟨h, R, e, v, r1, r2⟩
  · rw [e, floor_zero, h]
  · rw [e, floor_exact _ _ _ v r2]
    congr 1
    by_cases hn : n < 0
    · rw [decide_eq_true hn, if_pos rfl]; omega
    · rw [decide_eq_false hn, if_neg (by simp)]; omega
theorem floor_mul (a b : Int) (h1 : -67108864 ≤ a) (h2 : a ≤ 67108864) (h3 : -67108864 ≤ b) (h4 : b ≤ 67108864) (hb : b ≠ 0) : floorI (quotW (a * b) b) = (a, true) := by
  have hm : (a * b).natAbs ≤ 67108864 * 67108864 := by
    rw [Int.natAbs_mul]
    exact Nat.mul_le_mul (by omega) (by omega)
  obtain ⟨_, h | h | h | h⟩ := quotW_spec (a * b) b
  · omega
  · omega
  · have ha : a = 0 := by
      rcases Int.mul_eq_zero.1 h.2.1 with g | g
      · exact g
      · omega
    rw [h.2.2, floor_exact _ 0 0 (by rw [V_zero, Nat.zero_mul]) (by decide), ha]
    congr 1
    split <;> rfl
  · obtain ⟨hab, _, R, e, i, r1, r2⟩ := h
    have ha : a ≠ 0 := by intro g; rw [g, Int.zero_mul] at hab; exact hab rfl
    rw [clamp_id (a * b) (by omega) (by omega), clamp_id b (by omega) (by omega)] at i
    have hB : 0 < b.natAbs := by omega
    have v := IsR_whole _ _ a.natAbs R hB (by omega) (by omega) (Int.natAbs_mul a b) i
    have hs := IsR_small _ _ _ hB (by omega) i
    rw [e, floor_exact _ _ _ v hs]
    congr 1
    have sg : (decide (a * b < 0) ^^ decide (b < 0)) = decide (a < 0) := by
      rcases Int.lt_or_gt_of_ne ha with ga | ga <;> rcases Int.lt_or_gt_of_ne hb with gb | gb
      · have := Int.mul_pos_of_neg_of_neg ga gb
        rw [decide_eq_false (by omega), decide_eq_true gb, decide_eq_true ga]; rfl
      · have := Int.mul_neg_of_neg_of_pos ga gb
        rw [decide_eq_true this, decide_eq_false (by omega), decide_eq_true ga]; rfl
      · have := Int.mul_neg_of_pos_of_neg ga gb
        rw [decide_eq_true this, decide_eq_true gb, decide_eq_false (by omega)]; rfl
      · have := Int.mul_pos ga gb
        rw [decide_eq_false (by omega), decide_eq_false (by omega), decide_eq_false (by omega)]; rfl
    rw [sg]
    by_cases hn : a < 0
    · rw [decide_eq_true hn, if_pos rfl]; omega
    · rw [decide_eq_false hn, if_neg (by simp)]; omega
theorem key_whole (a b : Int) (h1 : -9007199254740992 ≤ a) (h : a < b) (h2 : b ≤ 9007199254740992) : keyW (wholeW a) < keyW (wholeW b) := by
  have kz : keyW (double.word false 0) = 0 := by rw [keyW_word _ _ (Nat.zero_le _)]; rfl
  have i1 : 1085 * 2 ^ 52 < infR := by decide
  rcases wholeW_spec a h1 (by omega) with ⟨ha, e1⟩ | ⟨ha, R, e1, v1, r1, r2⟩ <;> rcases wholeW_spec b (by omega) h2 with ⟨hb, e2⟩ | ⟨hb, S, e2, v2, s1, s2⟩
  · omega
  · rw [e1, e2, kz, keyW_finite _ _ (by omega), decide_eq_false (by omega), if_neg (by simp)]; omega
  · rw [e1, e2, kz, keyW_finite _ _ (by omega), decide_eq_true (by omega), if_pos rfl]; omega
  · rw [e1, e2, keyW_finite _ _ (by omega), keyW_finite _ _ (by omega)]
    by_cases na : a < 0
    · rw [decide_eq_true na, if_pos rfl]
      by_cases nb : b < 0
      · rw [decide_eq_true nb, if_pos rfl]
        have : S < R := by
          apply V_lt_iff.1
          rw [v1, v2]
          exact Nat.mul_lt_mul_of_pos_right (by omega) Uf_pos
        omega
      · rw [decide_eq_false nb, if_neg (by simp)]; omega
    · rw [decide_eq_false na, decide_eq_false (by omega), if_neg (by simp), if_neg (by simp)]
      have : R < S := by
        apply V_lt_iff.1
        rw [v1, v2]
        exact Nat.mul_lt_mul_of_pos_right (by omega) Uf_pos
      omega
theorem cmp_whole (a b : Int) (h1 : -9007199254740992 ≤ a) (h2 : a ≤ 9007199254740992) (h3 : -9007199254740992 ≤ b) (h4 : b ≤ 9007199254740992) : cmpW (wholeW a) (wholeW b) = cmpI a b := by
  rw [cmpW_eq _ _ (wholeW_lt a) (wholeW_lt b)]
  unfold cmpI
  rcases Int.lt_trichotomy a b with h | h | h
  · rw [if_pos h, if_pos (key_whole a b h1 h h4)]
  · subst h; rw [if_neg (by omega), if_neg (by omega), if_neg (by omega), if_neg (by omega)]
  · have := key_whole b a h3 h h2
    rw [if_neg (by omega), if_pos (by omega), if_neg (by omega), if_pos (by omega)]
theorem key_le (x : Nat) : keyW x ≤ 2 ^ 63 := by
  have : rg x < 2 ^ 63 := Nat.mod_lt _ (by decide)
  unfold keyW
  split
  · exact Int.le_refl _
  · split <;> omega
theorem edge_nan : keyW 9221120237041090560 = 2 ^ 63 := by decide
theorem edge_floor (a : Int) : floorI (quotW a 0) = (0, false) := by
  obtain ⟨_, h | h | h | h⟩ := quotW_spec a 0
  · rw [h.2.2]; rfl
  · rw [h.2.2]
    obtain ⟨w1, w2, _⟩ := word_ng (decide (a < 0)) infR (by decide)
    unfold floorI
    rw [w2, if_neg (by decide)]
  · omega
  · omega
theorem edge_key (a b c : Int) (_ha : a ≠ 0) (hc : c ≠ 0) : (0 < a → keyW (quotW b c) < keyW (quotW a 0)) ∧ (a < 0 → keyW (quotW a 0) < keyW (quotW b c)) := by
  have fin : -(infR : Int) ≤ keyW (quotW b c) ∧ keyW (quotW b c) < infR := by
    have := infR_pos
    obtain ⟨_, h | h | h | h⟩ := quotW_spec b c
    · omega
    · omega
    · rw [h.2.2, keyW_word _ _ (Nat.zero_le _)]; have : (1 : Int) ≤ infR := by omega
      split <;> omega
    · obtain ⟨_, _, R, e, _, _, r2⟩ := h
      rw [e, keyW_finite _ _ r2]; split <;> omega
  obtain ⟨_, h | h | h | h⟩ := quotW_spec a 0
  · omega
  · rw [h.2.2, keyW_word _ _ (Nat.le_refl _)]
    constructor
    · intro hp; rw [decide_eq_false (by omega), if_neg (by simp)]; omega
    · intro hn; rw [decide_eq_true hn, if_pos rfl]; omega
  · omega
  · omega
end Go.Proofs.Ytlobedghenflfaa.Fl
