/- The plain side of the law ScoreOrders. -/
import Derived.Test.YtlobedghenflfaaPx0
import Derived.Test.YtlobedghenflfaaPx1
import Derived.Test.YtlobedghenflfaaPx2
import Derived.Test.YtlobedghenflfaaScore
import Derived.Test.YtlobedghenflfaaSortPure
namespace Go.Proofs.Ytlobedghenflfaa.Pure
open Go.RowKit Go.Proofs.Ytlobedghenflfaa.P Go.Proofs.YtlobedghenflfaaW.PrintWords Go.Proofs.YtlobedghenflfaaW.PrintLast Go.Proofs.Ytlobedghenflfaa.S
set_option linter.unusedVariables false
set_option linter.unusedSimpArgs false
theorem andNotZ (X : Nat) (hX : X < 18446744073709551616) : Go.bits .andNot .u64 (X : Int) 9223372036854775808 = ((X % 2 ^ 63 : Nat) : Int) := by
  have h : Go.bits .andNot .u64 (X : Int) ((9223372036854775808 : Nat) : Int) = ((X &&& (18446744073709551615 - 9223372036854775808) : Nat) : Int) := u64_andNot_nat X 9223372036854775808 hX (by omega)
  have e : X &&& (18446744073709551615 - 9223372036854775808) = X % 2 ^ 63 := Nat.and_two_pow_sub_one_eq_mod X 63
  rw [e] at h
  exact h
theorem lowZ (v : Nat) (hv : v < 18446744073709551616) : Go.bits .and .u64 (v : Int) 4503599627370495 = ((v % 2 ^ 52 : Nat) : Int) := by
  have h : Go.bits .and .u64 (v : Int) ((4503599627370495 : Nat) : Int) = ((v &&& 4503599627370495 : Nat) : Int) := u64_and_nat v 4503599627370495 hv (by omega)
  have e : v &&& 4503599627370495 = v % 2 ^ 52 := Nat.and_two_pow_sub_one_eq_mod v 52
  rw [e] at h
  exact h
/-! ## how two compare -/
theorem rank_eq (X : Nat) (hX : X < 18446744073709551616) : rankZ (X : Int) = if Fl.infR < Fl.rg X then 18446744073709551615 else Fl.keyW X + 9223372036854775808 := by
  unfold rankZ Fl.keyW
  rw [andNotZ X hX]
  have e : Fl.infR = 9218868437227405312 := by decide
  have er : Fl.rg X = X % 2 ^ 63 := rfl
  have en : Fl.ng X = decide (2 ^ 63 ≤ X) := rfl
  rw [e, er, en]
  by_cases h : 9218868437227405312 < X % 2 ^ 63
  · rw [if_pos (by omega), if_pos h]
  · rw [if_neg (by omega), if_neg h, if_neg h]
    by_cases h2 : 2 ^ 63 ≤ X
    · rw [if_pos (by omega), decide_eq_true h2, if_pos rfl]; omega
    · rw [if_neg (by omega), decide_eq_false h2, if_neg (by simp)]; omega
theorem refCmp_eq (x y : Int) (hx : 0 ≤ x ∧ x < 2 ^ 64) (hy : 0 ≤ y ∧ y < 2 ^ 64) : colloquyref13_Cmp.f x y = some (cz x y) := by
  obtain ⟨X, rfl⟩ := Int.eq_ofNat_of_zero_le hx.1
  obtain ⟨Y, rfl⟩ := Int.eq_ofNat_of_zero_le hy.1
  have key : ∀ Z : Nat, Z < 18446744073709551616 → (Fl.infR < Fl.rg Z → Fl.keyW Z = 9223372036854775808) ∧ (¬ Fl.infR < Fl.rg Z → Fl.keyW Z < 9223372036854775807) := fun Z hZ => by
    have e : Fl.infR = 9218868437227405312 := by decide
    have er : Fl.rg Z = Z % 2 ^ 63 := rfl
    unfold Fl.keyW
    rw [e, er]
    refine ⟨fun h => by rw [if_pos h]; rfl, fun h => ?_⟩
    rw [if_neg h]
    split <;> omega
  have kx := key X (by omega)
  have ky := key Y (by omega)
  unfold colloquyref13_Cmp.f colloquyref13_rank.f
  rw [if_pos ⟨by omega, by omega⟩, if_pos ⟨by omega, by omega⟩, Option.bind_some, Option.bind_some, rank_eq X (by omega), rank_eq Y (by omega)]
  unfold cz kz Fl.cmpI
  rw [Int.toNat_natCast, Int.toNat_natCast]
  generalize Fl.keyW X = a at *
  generalize Fl.keyW Y = b at *
  by_cases px : Fl.infR < Fl.rg X <;> by_cases py : Fl.infR < Fl.rg Y
  · rw [if_pos px, if_pos py, kx.1 px, ky.1 py]; rfl
  · rw [if_pos px, if_neg py, kx.1 px]
    have := ky.2 py
    rw [if_neg (by omega), if_pos (by omega), if_neg (by omega), if_pos (by omega)]
  · rw [if_neg px, if_pos py, ky.1 py]
    have := kx.2 px
    rw [if_pos (by omega), if_pos (by omega)]
  · rw [if_neg px, if_neg py]
    by_cases h1 : a < b
    · rw [if_pos (by omega), if_pos h1]
    · by_cases h2 : a > b
      · rw [if_neg (by omega), if_pos (by omega), if_neg h1, if_pos h2]
      · rw [if_neg (by omega), if_neg (by omega), if_neg h1, if_neg h2]
/-! ## in order -/
theorem refSort_l1 (l : List Int) (hl : l.length ≤ 60) (hW : Wd l) (i : Nat) (hi : i < l.length) (acc : List Int) (hA : Wd acc) (hAl : acc.length ≤ 60) (res : Option (List Int)) (K0 : Nat)
    (hnext : ∀ K, K0 ≤ K → colloquyref13_Sort.l0 K l (ins kz (l.getD i 0) acc) ((i + 1 : Nat) : Int) = res) : ∀ (d : Nat) (U V : List Int) (K : Nat), U.length ≤ d → acc = U ++ V → (∀ v ∈ V, kz (l.getD i 0) < kz v) → d + K0 + 1 ≤ K →
    colloquyref13_Sort.l1 K l acc (i : Int) ((U.length : Nat) : Int) = res := by
  have hz : 0 ≤ l.getD i 0 ∧ l.getD i 0 < 2 ^ 64 := hW _ (getD_mem l i hi)
  have fin : ∀ (U V : List Int), acc = U ++ V → acc.take U.length ++ [l.getD i 0] ++ acc.drop U.length = U ++ l.getD i 0 :: V := fun U V e => by
    rw [e, List.take_left, List.drop_left, List.append_assoc]; rfl
  intro d
  induction d with
  | zero =>
    intro U V K hU e hV hK
    obtain ⟨K, rfl⟩ : ∃ q, K = q + 1 := ⟨K - 1, by omega⟩
    have hU0 : U = [] := List.length_eq_zero_iff.1 (by omega)
    have hw : wrap64 ((i : Int) + 1) = ((i + 1 : Nat) : Int) := by unfold wrap64; omega
    have hins : ins kz (l.getD i 0) acc = acc.take U.length ++ [l.getD i 0] ++ acc.drop U.length := by
      rw [fin U V e, e, ins_app kz _ U V.length V rfl hV, hU0]; rfl
    have hle : U.length ≤ acc.length := by rw [e, List.length_append]; omega
    have ht : (acc.take U.length).length = U.length := by rw [List.length_take]; omega
    have hdr : (acc.drop U.length).length = acc.length - U.length := List.length_drop
    simp only [colloquyref13_Sort.l1]
    rw [if_neg (by omega), if_pos (by omega), if_pos (by omega), Option.bind_some, Int.toNat_natCast, if_pos (by rw [ht]; simp; omega), Option.bind_some, if_pos (by omega), if_pos (by omega), List.nil_append, if_pos (by omega), Option.bind_some, Option.bind_some,
      if_pos (by rw [List.length_append, ht, hdr]; simp; omega), hw, rd_nat', ← hins]
    exact hnext K (by omega)
  | succ d ih =>
    intro U V K hU e hV hK
    by_cases hU0 : U.length ≤ d
    · exact ih U V K hU0 e hV (by omega)
    · obtain ⟨U', y, hUe⟩ : ∃ U' y, U = U' ++ [y] := ⟨U.dropLast, U.getLast (List.ne_nil_of_length_pos (by omega)), (List.dropLast_concat_getLast _).symm⟩
      have hUl : U.length = U'.length + 1 := by rw [hUe]; simp
      obtain ⟨K, rfl⟩ : ∃ q, K = q + 1 := ⟨K - 1, by omega⟩
      have hw : wrap64 ((i : Int) + 1) = ((i + 1 : Nat) : Int) := by unfold wrap64; omega
      have hle : U.length ≤ acc.length := by rw [e, List.length_append]; omega
      have hw1 : wrap64 (((U.length : Nat) : Int) - 1) = ((U'.length : Nat) : Int) := by unfold wrap64; omega
      have hy : rd acc ((U'.length : Nat) : Int) = y := by
        rw [rd_nat', e, hUe, List.append_assoc]
        exact getD_mid U' y _
      have hyw : 0 ≤ y ∧ y < 2 ^ 64 := hA y (by rw [e, hUe]; simp)
      simp only [colloquyref13_Sort.l1]
      rw [if_pos (by omega), if_pos (by omega), if_pos (by omega), hw1, if_pos (by omega), if_pos (by omega), hy, rd_nat' l i, refCmp_eq _ _ hz hyw, Option.bind_some]
      by_cases hc : cz (l.getD i 0) y < 0
      · rw [if_pos hc]
        exact ih U' (y :: V) K (by omega) (by rw [e, hUe, List.append_assoc]; rfl) (fun v hv => by
          rcases List.mem_cons.1 hv with rfl | hv
          · exact (cz_lt _ _).1 hc
          · exact hV v hv) (by omega)
      · have hnc : ¬ kz (l.getD i 0) < kz y := fun q => hc ((cz_lt _ _).2 q)
        have hins : ins kz (l.getD i 0) acc = acc.take U.length ++ [l.getD i 0] ++ acc.drop U.length := by
          rw [fin U V e, e, ins_app kz _ U V.length V rfl hV, hUe, ins_snoc, if_neg hnc]; simp
        have ht : (acc.take U.length).length = U.length := by rw [List.length_take]; omega
        have hdr : (acc.drop U.length).length = acc.length - U.length := List.length_drop
        rw [if_neg hc, if_pos (by omega), if_pos (by omega), Option.bind_some, Int.toNat_natCast, if_pos (by rw [ht]; simp; omega), Option.bind_some, List.nil_append, if_pos (by omega), Option.bind_some, Option.bind_some,
          if_pos (by rw [List.length_append, ht, hdr]; simp; omega), hw, ← hins]
        exact hnext K (by omega)
theorem refSort_l0 (l : List Int) (hl : l.length ≤ 60) (hW : Wd l) : ∀ (d i K : Nat), l.length - i ≤ d → i ≤ l.length → d * 100 + 10 ≤ K → colloquyref13_Sort.l0 K l (sortS kz (l.take i)) (i : Int) = some (sortS kz l) := by
  intro d
  induction d with
  | zero =>
    intro i K hd hi hK
    obtain ⟨K, rfl⟩ : ∃ q, K = q + 1 := ⟨K - 1, by omega⟩
    have : i = l.length := by omega
    subst this
    simp only [colloquyref13_Sort.l0]
    rw [if_neg (by omega), List.take_length]
  | succ d ih =>
    intro i K hd hi hK
    by_cases hlt : i < l.length
    · obtain ⟨K, rfl⟩ : ∃ q, K = q + 1 := ⟨K - 1, by omega⟩
      simp only [colloquyref13_Sort.l0]
      rw [if_pos (by omega)]
      have hlen : (sortS kz (l.take i)).length = i := by rw [sortS_len, List.length_take]; omega
      refine refSort_l1 l hl hW i hlt (sortS kz (l.take i)) (fun x hx => hW x (List.mem_of_mem_take ((sortS_mem kz _ x).1 hx))) (by omega) _ (d * 100 + 10) (fun K' hK' => ?_) i _ [] K (by omega) (by simp) (by simp) (by omega)
      have hs : ins kz (l.getD i 0) (sortS kz (l.take i)) = sortS kz (l.take (i + 1)) := by
        rw [← sortS_snoc, List.take_succ_eq_append_getElem hlt, List.getD_eq_getElem?_getD, List.getElem?_eq_getElem hlt]; rfl
      rw [hs]
      exact ih (i + 1) K' (by omega) (by omega) hK'
    · exact ih i K (by omega) hi (by omega)
theorem refSort_eq (l : List Int) (hl : l.length ≤ 60) (hW : Wd l) (K : Nat) (hK : 6100 ≤ K) : colloquyref13_Sort.f K l = some (sortS kz l) := by
  unfold colloquyref13_Sort.f
  exact refSort_l0 l hl hW l.length 0 K (by omega) (by omega) (by omega)
/-! ## the floor -/
theorem ref_l1 (X : Int) : ∀ (d : Nat) (m : Nat) (cut : Bool) (K : Nat), d ≤ 52 → m < 2 ^ 62 → d + 1 ≤ K → colloquyref13_Floor.l1 K X (52 - (d : Int)) (m : Int) cut =
    (if X < 9223372036854775808 then some (((m / 2 ^ d : Nat) : Int), true) else if (cut || decide (m % 2 ^ d ≠ 0)) = true then some (-((m / 2 ^ d : Nat) : Int) - 1, true) else some (-((m / 2 ^ d : Nat) : Int), true)) := by
  intro d
  induction d with
  | zero =>
    intro m cut K hd hm hK
    obtain ⟨K, rfl⟩ : ∃ q, K = q + 1 := ⟨K - 1, by omega⟩
    simp only [colloquyref13_Floor.l1]
    have h1 : wrap64 (-(m : Int)) = -(m : Int) := by unfold wrap64; omega
    have h2 : wrap64 (-(m : Int) - 1) = -(m : Int) - 1 := by unfold wrap64; omega
    rw [if_neg (by omega), h1, h2, Nat.pow_zero, Nat.div_one, Nat.mod_one]
    cases cut <;> simp
  | succ d ih =>
    intro m cut K hd hm hK
    obtain ⟨K, rfl⟩ : ∃ q, K = q + 1 := ⟨K - 1, by omega⟩
    simp only [colloquyref13_Floor.l1]
    have h1 : Int.tdiv (m : Int) 2 = ((m / 2 : Nat) : Int) := rfl
    have h2 : Int.tmod (m : Int) 2 = ((m % 2 : Nat) : Int) := rfl
    have h3 : wrap64 ((m / 2 : Nat) : Int) = ((m / 2 : Nat) : Int) := by unfold wrap64; omega
    have h4 : wrap64 (52 - ((d + 1 : Nat) : Int) + 1) = 52 - (d : Int) := by unfold wrap64; omega
    have e1 : m / 2 / 2 ^ d = m / 2 ^ (d + 1) := by rw [Nat.div_div_eq_div_mul, Nat.pow_succ, Nat.mul_comm]
    have e2 : m % 2 ^ (d + 1) = m % 2 + 2 * (m / 2 % 2 ^ d) := by rw [Nat.pow_succ, Nat.mul_comm, Nat.mod_mul]
    rw [if_pos (by omega), h1, h2, h3, h4, ih (m / 2) true K (by omega) (by omega) (by omega), ih (m / 2) ((((m % 2 : Nat) : Int)) == 1) K (by omega) (by omega) (by omega), e1, e2]
    cases cut with
    | true => rw [if_pos rfl]; simp
    | false =>
      rw [if_neg (by simp)]
      have e3 : ((((m % 2 : Nat) : Int) == 1) || decide (m / 2 % 2 ^ d ≠ 0)) = (false || decide (m % 2 + 2 * (m / 2 % 2 ^ d) ≠ 0)) := by
        rw [Bool.false_or]
        by_cases p : m % 2 = 1
        · rw [p]
          have : decide (1 + 2 * (m / 2 % 2 ^ d) ≠ 0) = true := decide_eq_true (by omega)
          rw [this]; rfl
        · have p0 : m % 2 = 0 := by omega
          rw [p0]
          have : (((0 : Nat) : Int) == 1) = false := rfl
          rw [this, Bool.false_or]
          by_cases q : m / 2 % 2 ^ d = 0
          · rw [q]
          · rw [decide_eq_true q, decide_eq_true (by omega)]
      rw [e3]
theorem ref_l0 (X : Int) : ∀ (k m K : Nat), m * 2 ^ k < 2 ^ 62 → k ≤ 60 → k + 2 ≤ K → ∃ K', K ≤ K' + k + 1 ∧ colloquyref13_Floor.l0 K X (52 + (k : Int)) (m : Int) = colloquyref13_Floor.l1 K' X 52 ((m * 2 ^ k : Nat) : Int) false := by
  intro k
  induction k with
  | zero =>
    intro m K hm h60 hK
    obtain ⟨K, rfl⟩ : ∃ q, K = q + 1 := ⟨K - 1, by omega⟩
    refine ⟨K, by omega, ?_⟩
    simp only [colloquyref13_Floor.l0]
    rw [if_neg (by omega), Nat.pow_zero, Nat.mul_one]
    rfl
  | succ k ih =>
    intro m K hm h60 hK
    obtain ⟨K, rfl⟩ : ∃ q, K = q + 1 := ⟨K - 1, by omega⟩
    have hk : m * 2 ^ (k + 1) = (2 * m) * 2 ^ k := by rw [Nat.pow_succ, Nat.mul_comm (2 ^ k), ← Nat.mul_assoc, Nat.mul_comm m]
    have hb : 2 * m ≤ (2 * m) * 2 ^ k := Nat.le_mul_of_pos_right _ (Nat.two_pow_pos k)
    rw [hk] at hm ⊢
    obtain ⟨K', p1, p2⟩ := ih (2 * m) K hm (by omega) (by omega)
    refine ⟨K', by omega, ?_⟩
    simp only [colloquyref13_Floor.l0]
    have h1 : wrap64 (52 + ((k + 1 : Nat) : Int) - 1) = 52 + (k : Int) := by unfold wrap64; omega
    have h2 : wrap64 (2 * (m : Int)) = ((2 * m : Nat) : Int) := by unfold wrap64; omega
    rw [if_pos (by omega), h1, h2]
    exact p2
/-- a number's whole part, told by its place -/
theorem floor_low (v : Nat) (h : v < 1023 * 2 ^ 52) : Fl.V v / Fl.Uf = 0 ∧ (Fl.V v % Fl.Uf ≠ 0 ↔ v ≠ 0) := by
  have h1 : Fl.V v < Fl.Uf := by
    have hv := Fl.V_lt h
    have e : Fl.V (1023 * 2 ^ 52) = Fl.Uf := by
      obtain ⟨x, hx⟩ : ∃ x, x = 1022 := ⟨_, rfl⟩
      have h := Fl.V_sig x (2 ^ 52) (by omega) (by omega)
      have e1 : x * 2 ^ 52 + 2 ^ 52 = 1023 * 2 ^ 52 := by omega
      rw [e1, ← Nat.pow_add, Fl.pow_Uf (52 + x) (by omega)] at h
      exact h
    rw [e] at hv
    exact hv
  refine ⟨Nat.div_eq_of_lt h1, ?_⟩
  rw [Nat.mod_eq_of_lt h1]
  constructor
  · intro g e; rw [e] at g; exact g rfl
  · intro g e
    have : Fl.V 0 < Fl.V v := Fl.V_lt (by omega)
    omega
theorem V_exp (e f : Nat) (hf : f < 2 ^ 52) (P : Nat) (hP : P = 2 ^ (e + 1022)) : Fl.V ((e + 1023) * 2 ^ 52 + f) = (2 ^ 52 + f) * P := by
  unfold Fl.V
  have h1 : ((e + 1023) * 2 ^ 52 + f) % 2 ^ 52 = f := by omega
  have h2 : ((e + 1023) * 2 ^ 52 + f) / 2 ^ 52 - 1 = e + 1022 := by omega
  rw [if_neg (by omega), h1, h2, hP]
theorem floor_mid (e d f : Nat) (hf : f < 2 ^ 52) (hd : e + d = 52) : Fl.V ((e + 1023) * 2 ^ 52 + f) / Fl.Uf = (2 ^ 52 + f) / 2 ^ d ∧ (Fl.V ((e + 1023) * 2 ^ 52 + f) % Fl.Uf ≠ 0 ↔ (2 ^ 52 + f) % 2 ^ d ≠ 0) := by
  obtain ⟨P, hP⟩ : ∃ P, P = 2 ^ (e + 1022) := ⟨_, rfl⟩
  have hpos : 0 < P := by rw [hP]; exact Nat.two_pow_pos _
  have hU : Fl.Uf = 2 ^ d * P := by
    rw [← Fl.pow_Uf (d + (e + 1022)) (by omega), Nat.pow_add, hP]
  rw [V_exp e f hf P hP, hU, Nat.mul_div_mul_right _ _ hpos, Nat.mul_mod_mul_right]
  refine ⟨rfl, ?_⟩
  constructor
  · intro g q; rw [q, Nat.zero_mul] at g; exact g rfl
  · intro g q
    rcases Nat.mul_eq_zero.1 q with q | q
    · exact g q
    · omega
theorem floor_high (k f : Nat) (hf : f < 2 ^ 52) : Fl.V ((52 + k + 1023) * 2 ^ 52 + f) / Fl.Uf = (2 ^ 52 + f) * 2 ^ k ∧ Fl.V ((52 + k + 1023) * 2 ^ 52 + f) % Fl.Uf = 0 := by
  obtain ⟨P, hP⟩ : ∃ P, P = 2 ^ (52 + k + 1022) := ⟨_, rfl⟩
  have hU : P = Fl.Uf * 2 ^ k := by rw [hP]; exact Fl.pow_Uf_add _ k (by omega)
  rw [V_exp (52 + k) f hf P hP, hU, Nat.mul_comm Fl.Uf, ← Nat.mul_assoc]
  exact ⟨Nat.mul_div_cancel _ Fl.Uf_pos, Nat.mul_mod_left _ _⟩
theorem floor_hi (X e f K Q M : Nat) (he61 : e ≤ 61) (hf2 : f < 4503599627370496) (hK : 199 ≤ K) (ngX : Bool) (hng : ngX = decide (9223372036854775808 ≤ X))
    (hlo : ∀ d, e + d = 52 → Q = (4503599627370496 + f) / 2 ^ d ∧ (M ≠ 0 ↔ (4503599627370496 + f) % 2 ^ d ≠ 0)) (hhi : ∀ k, e = 52 + k → Q = (4503599627370496 + f) * 2 ^ k ∧ M = 0) :
    colloquyref13_Floor.l0 K (X : Int) (e : Int) ((4503599627370496 + f : Nat) : Int) = some ((if ngX = true then -((Q + (if ngX = true ∧ M ≠ 0 then 1 else 0) : Nat) : Int) else ((Q + (if ngX = true ∧ M ≠ 0 then 1 else 0) : Nat) : Int)), true) := by
  obtain ⟨m, hm⟩ : ∃ m, 4503599627370496 + f = m := ⟨_, rfl⟩
  have hml : m < 9007199254740992 := by omega
  rw [hm] at hlo hhi ⊢
  clear hm hf2
  by_cases he52 : e ≤ 52
  · obtain ⟨d, hd⟩ : ∃ d, e + d = 52 := ⟨52 - e, by omega⟩
    obtain ⟨g1, g2⟩ := hlo d hd
    clear hlo hhi
    obtain ⟨K, rfl⟩ : ∃ q, K = q + 1 := ⟨K - 1, by omega⟩
    have h0 : colloquyref13_Floor.l0 (K + 1) (X : Int) (e : Int) ((m : Nat) : Int) = colloquyref13_Floor.l1 K (X : Int) (52 - (d : Int)) ((m : Nat) : Int) false := by
      simp only [colloquyref13_Floor.l0]
      rw [if_neg (by omega), show (e : Int) = 52 - (d : Int) by omega]
    rw [h0, ref_l1 (X : Int) d m false K (by omega) (by omega) (by omega), ← g1]
    by_cases hs : 9223372036854775808 ≤ X
    · rw [if_neg (by omega), hng, decide_eq_true hs, Bool.false_or, if_pos rfl]
      by_cases hz : m % 2 ^ d ≠ 0
      · rw [decide_eq_true hz, if_pos rfl, if_pos ⟨rfl, g2.2 hz⟩]
        congr 2
        omega
      · rw [decide_eq_false hz, if_neg (by simp), if_neg (fun g => hz (g2.1 g.2))]; rfl
    · rw [if_pos (by omega), hng, decide_eq_false hs, if_neg (by simp), if_neg (by simp)]; rfl
  · obtain ⟨k, rfl⟩ : ∃ k, e = 52 + k := ⟨e - 52, by omega⟩
    obtain ⟨g1, g2⟩ := hhi k rfl
    clear hlo hhi
    have hk9 : k ≤ 9 := by omega
    have hp : 2 ^ k ≤ 2 ^ 9 := Nat.pow_le_pow_right (by omega) hk9
    have hmk : m * 2 ^ k < 2 ^ 62 := by
      have h1 : m * 2 ^ k ≤ m * 2 ^ 9 := Nat.mul_le_mul_left _ hp
      omega
    obtain ⟨K', p1, p2⟩ := ref_l0 (X : Int) k m K hmk (by omega) (by omega)
    rw [show ((52 + k : Nat) : Int) = 52 + (k : Int) by omega, p2]
    have h1 := ref_l1 (X : Int) 0 (m * 2 ^ k) false K' (by omega) hmk (by omega)
    rw [show (52 : Int) - ((0 : Nat) : Int) = 52 from rfl, Nat.pow_zero, Nat.div_one, Nat.mod_one, ← g1] at h1
    rw [← g1, h1, g2, hng]
    by_cases hs : 9223372036854775808 ≤ X
    · rw [if_neg (by omega), decide_eq_true hs]; simp
    · rw [if_pos (by omega), decide_eq_false hs]; simp
theorem split52 (v : Nat) (h : 1023 * 4503599627370496 ≤ v) (h2 : v < 1085 * 4503599627370496) : ∃ e f : Nat, e ≤ 61 ∧ f < 4503599627370496 ∧ v / 4503599627370496 = e + 1023 ∧ v % 4503599627370496 = f := ⟨v / 4503599627370496 - 1023, v % 4503599627370496, by omega, by omega, by omega, rfl⟩
theorem join52 (v e f : Nat) (he : v / 2 ^ 52 = e + 1023) (hf : v % 2 ^ 52 = f) : v = (e + 1023) * 2 ^ 52 + f := by
  rw [← he, ← hf, Nat.mul_comm]; exact (Nat.div_add_mod v (2 ^ 52)).symm
theorem refFloor_eq (X : Nat) (hX : X < 18446744073709551616) (K : Nat) (hK : 200 ≤ K) : colloquyref13_Floor.f K (X : Int) = some (Fl.floorI X) := by
  have hmain : ∀ v : Nat, Fl.rg X = v → v < 9223372036854775808 → colloquyref13_Floor.f K (X : Int) = some (Fl.floorI X) := by
    intro v hv hv2
    unfold colloquyref13_Floor.f Fl.floorI Fl.floorM Fl.wholeN
    rw [andNotZ X hX, show X % 2 ^ 63 = v from hv, hv]
    obtain ⟨ngX, hng⟩ : ∃ b, Fl.ng X = b := ⟨_, rfl⟩
    have hng2 : ngX = decide (9223372036854775808 ≤ X) := hng.symm
    rw [hng]
    clear hng hv
    by_cases hbig : v < 1085 * 4503599627370496
    · rw [if_neg (by omega), if_pos (show v < 1085 * 2 ^ 52 from hbig)]
      have hq : ((v : Int)) / 4503599627370496 = ((v / 4503599627370496 : Nat) : Int) := by omega
      have hw1 : wrap64 ((v / 4503599627370496 : Nat) : Int) = ((v / 4503599627370496 : Nat) : Int) := by unfold wrap64; omega
      have hw2 : wrap64 (((v / 4503599627370496 : Nat) : Int) - 1023) = ((v / 4503599627370496 : Nat) : Int) - 1023 := by unfold wrap64; omega
      rw [hq, hw1, hw2]
      by_cases hlow : v < 1023 * 4503599627370496
      · obtain ⟨g1, g2⟩ := floor_low v hlow
        rw [if_pos (by omega), g1, hng2]
        by_cases hs : 9223372036854775808 ≤ X
        · rw [if_pos (by omega), decide_eq_true hs, if_pos rfl]
          by_cases hz : v = 0
          · have : ¬ (Fl.V v % Fl.Uf ≠ 0) := fun g => (g2.1 g) hz
            rw [if_neg (by omega), if_neg (fun g => this g.2)]; rfl
          · rw [if_pos (by omega), if_pos ⟨rfl, g2.2 hz⟩]; rfl
        · rw [if_neg (by omega), decide_eq_false hs, if_neg (by simp), if_neg (by simp)]; rfl
      · rw [if_neg (by omega), lowZ v (by omega)]
        obtain ⟨e, f, he61, hf2, he, hf⟩ := split52 v (by omega) hbig
        have hve := join52 v e f he hf
        have hw3 : wrap64 ((f : Nat) : Int) = (f : Int) := by clear hve he hf hq hw1 hw2; unfold wrap64; omega
        have hw4 : wrap64 ((f : Int) + 4503599627370496) = ((4503599627370496 + f : Nat) : Int) := by clear hve he hf hq hw1 hw2; unfold wrap64; omega
        have hee : ((e + 1023 : Nat) : Int) - 1023 = (e : Int) := by clear hve he hf hq hw1 hw2; omega
        rw [show v % 2 ^ 52 = f from hf, hw3, hw4, he, hee, hve]
        clear hve he hf hq hw1 hw2 hw3 hw4 hee hlow hbig hv2
        exact floor_hi X e f K _ _ he61 hf2 (by omega) ngX hng2 (fun d hd => floor_mid e d f hf2 hd) (fun k hk => by subst hk; exact floor_high k f hf2)
    · rw [if_pos (by omega), if_neg (show ¬ v < 1085 * 2 ^ 52 from hbig)]
  exact hmain (Fl.rg X) rfl (Nat.mod_lt _ (by decide))
theorem ScoreOrders.pure (x y : Int) (l : List Int) (hx : (Lit.int .u64 x).wf = true) (hy : (Lit.int .u64 y).wf = true) (h2 : ∀ x ∈ l, (Lit.int .u64 x).wf = true) : ∃ k, colloquylaw13_ScoreOrders.f k x y l = some true := by
  have hW : Wd l := words_of l h2
  obtain ⟨X, rfl, hX⟩ := u64_range x hx
  obtain ⟨Y, rfl, hY⟩ := u64_range y hy
  by_cases h60 : (l.length : Int) > 60
  · refine ⟨1, ?_⟩
    unfold colloquylaw13_ScoreOrders.f
    rw [awake_eq, bs, if_pos rfl, decide_eq_true h60]
    simp only [colloquylaw13_ScoreOrders.j0]
    rfl
  · have hl : l.length ≤ 60 := by omega
    refine ⟨6100 + 1, ?_⟩
    unfold colloquylaw13_ScoreOrders.f
    rw [awake_eq, bs, if_pos rfl, decide_eq_false h60]
    simp only [colloquylaw13_ScoreOrders.j0]
    rw [if_neg (by simp), floor_f X hX, bs, refFloor_eq X (by omega) 6100 (by omega), bs, sort_f l (by omega) hW, bs, refSort_eq l hl hW 6100 (by omega), bs]
    rw [same_self (sortS kz l) 6100 (by rw [sortS_len]; omega) (by rw [sortS_len]; omega), bs, if_pos rfl, if_pos rfl, if_pos (by simp)]
    rw [cmp_cz _ _ ⟨by omega, by omega⟩ ⟨by omega, by omega⟩, bs, refCmp_eq _ _ ⟨by omega, by omega⟩ ⟨by omega, by omega⟩, bs]
    simp
end Go.Proofs.Ytlobedghenflfaa.Pure
