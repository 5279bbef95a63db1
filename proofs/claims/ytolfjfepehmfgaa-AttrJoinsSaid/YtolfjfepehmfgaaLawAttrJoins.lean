/- The plain side of the law AttrJoins. -/
import Derived.Test.YtolfjfepehmfgaaPx0
import Derived.Test.YtolfjfepehmfgaaPx1
import Derived.Test.YtolfjfepehmfgaaPx10
import Derived.Test.YtolfjfepehmfgaaAttrA
import Derived.Test.YtolfjfepehmfgaaAttrW
import Derived.Test.YtolfjfepehmfgaaAttrMay
namespace Go.Proofs.Ytolfjfepehmfgaa.P
open Go.RowKit Go.Proofs.YtolfjfepehmfgaaW.PrintWords Go.Proofs.YtolfjfepehmfgaaW.PrintLast Go.Proofs.YtolfjfepehmfgaaW.PrintMore
set_option linter.unusedVariables false
def nn (l : List Int) : Prop := ∀ x, x ∈ l → 0 ≤ x
theorem nn_nil : nn [] := fun _ h => by cases h
theorem nn_get (l : List Int) (h : nn l) (i : Nat) : 0 ≤ l.getD i 0 := by
  rw [List.getD_eq_getElem?_getD]
  rcases Nat.lt_or_ge i l.length with g | g
  · rw [List.getElem?_eq_getElem g]; exact h _ (List.getElem_mem g)
  · rw [List.getElem?_eq_none g]; exact Int.le_refl _
theorem mg1_spec (m : Int × List Int) (a : S27) (h : nn m.2) : (mg1 m a).1 = max m.1 a.f0 ∧ nn (mg1 m a).2 ∧ (∀ i, (mg1 m a).2.getD i 0 = max (m.2.getD i 0) (a.f1.getD i 0)) ∧ (mg1 m a).2.length = max m.2.length a.f1.length := by
  refine ⟨mx_eq _ _, mxl_nonneg _ _ h, fun i => ?_, mxl_length _ _⟩
  have := nn_get m.2 h i
  show (mxl m.2 a.f1).getD i 0 = _
  rw [mxl_get _ _ _ h]; omega
/-- what two are together -/
theorem mg2_spec (a b : S27) : (mg [a, b]).1 = max (max 0 a.f0) b.f0 ∧ nn (mg [a, b]).2 ∧ (∀ i, (mg [a, b]).2.getD i 0 = max (max 0 (a.f1.getD i 0)) (b.f1.getD i 0)) ∧ (mg [a, b]).2.length = max a.f1.length b.f1.length := by
  obtain ⟨p1, p2, p3, p4⟩ := mg1_spec (0, []) a nn_nil
  obtain ⟨q1, q2, q3, q4⟩ := mg1_spec (mg1 (0, []) a) b p2
  refine ⟨by show (mg1 (mg1 (0, []) a) b).1 = _; rw [q1, p1], q2, fun i => ?_, ?_⟩
  · show (mg1 (mg1 (0, []) a) b).2.getD i 0 = _
    rw [q3, p3]; rfl
  · show (mg1 (mg1 (0, []) a) b).2.length = _
    rw [q4, p4]; simp
theorem mg4_spec (a b c d : S27) : (mg [a, b, c, d]).1 = max (max (max (max 0 a.f0) b.f0) c.f0) d.f0 ∧ (∀ i, (mg [a, b, c, d]).2.getD i 0 = max (max (max (max 0 (a.f1.getD i 0)) (b.f1.getD i 0)) (c.f1.getD i 0)) (d.f1.getD i 0)) := by
  obtain ⟨p1, p2, p3, p4⟩ := mg2_spec a b
  obtain ⟨q1, q2, q3, q4⟩ := mg1_spec (mg [a, b]) c p2
  obtain ⟨r1, r2, r3, r4⟩ := mg1_spec (mg1 (mg [a, b]) c) d q2
  refine ⟨by show (mg1 (mg1 (mg [a, b]) c) d).1 = _; rw [r1, q1, p1], fun i => ?_⟩
  show (mg1 (mg1 (mg [a, b]) c) d).2.getD i 0 = _
  rw [r3, q3, p3]
theorem mayA_of (s : Int) (l : List Int) (h1 : 0 ≤ s) (h2 : s ≤ 1073741824) (hl : l.length = 7) (hm : ∀ i, 0 ≤ l.getD i 0 ∧ l.getD i 0 ≤ 1048576) : mayA s l 7 = true := by
  refine (mayA_iff ..).2 ⟨fun d hd => ?_, by omega, by omega, by omega, h1, h2⟩
  obtain ⟨i, hi, rfl⟩ := List.mem_iff_getElem.1 hd
  have := hm i
  rwa [List.getD_eq_getElem?_getD, List.getElem?_eq_getElem hi] at this
theorem may_get (s : Int) (l : List Int) (h : mayA s l 7 = true) : 0 ≤ s ∧ s ≤ 1073741824 ∧ l.length = 7 ∧ ∀ i, 0 ≤ l.getD i 0 ∧ l.getD i 0 ≤ 1048576 := by
  obtain ⟨m1, m2, m3, m4, m5, m6⟩ := (mayA_iff ..).1 h
  refine ⟨m5, m6, by omega, fun i => ?_⟩
  rw [List.getD_eq_getElem?_getD]
  rcases Nat.lt_or_ge i l.length with g | g
  · rw [List.getElem?_eq_getElem g]; exact m1 _ (List.getElem_mem g)
  · rw [List.getElem?_eq_none g]; exact ⟨Int.le_refl _, by show (0 : Int) ≤ 1048576; omega⟩
theorem merge2 (a b : S27) (ha : a.f1.length ≤ 1000000) (hb : b.f1.length ≤ 1000000) : Ev (fun k => attr_Merge.f k [a, b]) (mg [a, b]) := by
  refine attr_Merge.ev _ (by show (2 : Nat) ≤ _; omega) (fun x hx => ?_)
  simp only [List.mem_cons, List.mem_nil_iff, or_false] at hx
  rcases hx with rfl | rfl
  · exact ha
  · exact hb
theorem AttrJoins.pure (a : Int) (la : List Int) (b : Int) (lb : List Int) (c : Int) (lc : List Int) (h0 : la.length ≤ 9223372036854775807) (h1 : lb.length ≤ 9223372036854775807) (h2 : lc.length ≤ 9223372036854775807) :
    ∃ k, colloquylaw06_AttrJoins.f k a la b lb c lc = some true := by
  refine Ev.rounds ?_
  obtain ⟨K, hK⟩ := awake_ev
  obtain ⟨KA, hA⟩ := attr_May.ev a la 7 h0
  obtain ⟨KB, hB⟩ := attr_May.ev b lb 7 h1
  obtain ⟨KC, hC⟩ := attr_May.ev c lc 7 h2
  have out : ∀ k, colloquylaw06_AttrJoins.j0 (k + 1) true true a la b lb c lc = some true := fun k => by simp only [colloquylaw06_AttrJoins.j0]; rfl
  by_cases hm : mayA a la 7 = true ∧ mayA b lb 7 = true ∧ mayA c lc 7 = true
  rotate_left
  · refine ⟨K + KA + KB + KC + 1, fun k hk => ?_⟩
    obtain ⟨m, rfl⟩ : ∃ m, k = m + 1 := ⟨k - 1, by omega⟩
    have e0 := hK (m + 1) (by omega)
    have e1 := hA (m + 1) (by omega)
    have e2 := hB (m + 1) (by omega)
    have e3 := hC (m + 1) (by omega)
    simp only at e0 e1 e2 e3
    show colloquylaw06_AttrJoins.f (m + 1) a la b lb c lc = _
    unfold colloquylaw06_AttrJoins.f
    rw [e0, e1, e2, e3]
    simp only [Option.bind_some, if_true]
    cases hx : mayA a la 7 with
    | false => rw [if_neg (by simp)]; exact out m
    | true =>
      rw [if_pos rfl]
      cases hy : mayA b lb 7 with
      | false => rw [if_neg (by simp)]; exact out m
      | true =>
        rw [if_pos rfl]
        cases hz : mayA c lc 7 with
        | false => exact out m
        | true => exact absurd ⟨hx, hy, hz⟩ hm
  obtain ⟨ma, mb, mc⟩ := hm
  obtain ⟨a1, a2, a3, a4⟩ := may_get a la ma
  obtain ⟨b1, b2, b3, b4⟩ := may_get b lb mb
  obtain ⟨c1, c2, c3, c4⟩ := may_get c lc mc
  let A : S27 := ⟨a, la⟩
  let B : S27 := ⟨b, lb⟩
  let C : S27 := ⟨c, lc⟩
  obtain ⟨p1, p2, p3, p4⟩ := mg2_spec A B
  obtain ⟨q1, q2, q3, q4⟩ := mg2_spec B A
  obtain ⟨r1, r2, r3, r4⟩ := mg2_spec B C
  have hAl : A.f1.length ≤ 1000000 := by show la.length ≤ _; omega
  have hBl : B.f1.length ≤ 1000000 := by show lb.length ≤ _; omega
  have hCl : C.f1.length ≤ 1000000 := by show lc.length ≤ _; omega
  have hM7 : (mg [A, B]).2.length = 7 := by rw [p4]; show max la.length lb.length = 7; omega
  have hN7 : (mg [B, C]).2.length = 7 := by rw [r4]; show max lb.length lc.length = 7; omega
  obtain ⟨K1, h1'⟩ := merge2 A B hAl hBl
  obtain ⟨K2, h2'⟩ := merge2 B A hBl hAl
  obtain ⟨K3, h3'⟩ := attr_Merge.ev [A, B, A, ⟨(mg [A, B]).1, (mg [A, B]).2⟩] (by show (4 : Nat) ≤ _; omega) (fun x hx => by
    simp only [List.mem_cons, List.mem_nil_iff, or_false] at hx
    rcases hx with rfl | rfl | rfl | rfl
    · exact hAl
    · exact hBl
    · exact hAl
    · show (mg [A, B]).2.length ≤ _; omega)
  obtain ⟨K4, h4'⟩ := merge2 ⟨(mg [A, B]).1, (mg [A, B]).2⟩ C (by show (mg [A, B]).2.length ≤ _; omega) hCl
  obtain ⟨K5, h5'⟩ := merge2 B C hBl hCl
  obtain ⟨K6, h6'⟩ := merge2 A ⟨(mg [B, C]).1, (mg [B, C]).2⟩ hAl (by show (mg [B, C]).2.length ≤ _; omega)
  obtain ⟨s1, s3⟩ := mg4_spec A B A ⟨(mg [A, B]).1, (mg [A, B]).2⟩
  obtain ⟨t1, t2, t3, t4⟩ := mg2_spec ⟨(mg [A, B]).1, (mg [A, B]).2⟩ C
  obtain ⟨u1, u2, u3, u4⟩ := mg2_spec A ⟨(mg [B, C]).1, (mg [B, C]).2⟩
  have hmay : mayA (mg [A, B]).1 (mg [A, B]).2 7 = true := by
    refine mayA_of _ _ ?_ ?_ hM7 (fun i => ?_)
    · rw [p1]; show 0 ≤ max (max 0 a) b; omega
    · rw [p1]; show max (max 0 a) b ≤ _; omega
    · rw [p3]; have := a4 i; have := b4 i; show 0 ≤ max (max 0 (la.getD i 0)) (lb.getD i 0) ∧ max (max 0 (la.getD i 0)) (lb.getD i 0) ≤ _; omega
  obtain ⟨KM, hM⟩ := attr_May.ev (mg [A, B]).1 (mg [A, B]).2 7 (by omega)
  have one : sm (mg [A, B]).1 (mg [A, B]).2 (mg [B, A]).1 (mg [B, A]).2 = true := by
    refine (sm_iff ..).2 ⟨fun i => ?_, ?_⟩
    · rw [p3, q3]; show max (max 0 (la.getD i 0)) (lb.getD i 0) = max (max 0 (lb.getD i 0)) (la.getD i 0); omega
    · rw [p1, q1]; show max (max 0 a) b = max (max 0 b) a; omega
  have two : sm (mg [A, B]).1 (mg [A, B]).2 (mg [A, B, A, ⟨(mg [A, B]).1, (mg [A, B]).2⟩]).1 (mg [A, B, A, ⟨(mg [A, B]).1, (mg [A, B]).2⟩]).2 = true := by
    refine (sm_iff ..).2 ⟨fun i => ?_, ?_⟩
    · rw [s3]
      show (mg [A, B]).2.getD i 0 = max (max (max (max 0 (la.getD i 0)) (lb.getD i 0)) (la.getD i 0)) ((mg [A, B]).2.getD i 0)
      rw [p3]; show max (max 0 (la.getD i 0)) (lb.getD i 0) = max (max (max (max 0 (la.getD i 0)) (lb.getD i 0)) (la.getD i 0)) (max (max 0 (la.getD i 0)) (lb.getD i 0)); omega
    · rw [s1]
      show (mg [A, B]).1 = max (max (max (max 0 a) b) a) (mg [A, B]).1
      rw [p1]; show max (max 0 a) b = max (max (max (max 0 a) b) a) (max (max 0 a) b); omega
  have three : sm (mg [⟨(mg [A, B]).1, (mg [A, B]).2⟩, C]).1 (mg [⟨(mg [A, B]).1, (mg [A, B]).2⟩, C]).2 (mg [A, ⟨(mg [B, C]).1, (mg [B, C]).2⟩]).1 (mg [A, ⟨(mg [B, C]).1, (mg [B, C]).2⟩]).2 = true := by
    refine (sm_iff ..).2 ⟨fun i => ?_, ?_⟩
    · rw [t3, u3]
      show max (max 0 ((mg [A, B]).2.getD i 0)) (lc.getD i 0) = max (max 0 (la.getD i 0)) ((mg [B, C]).2.getD i 0)
      rw [p3, r3]
      show max (max 0 (max (max 0 (la.getD i 0)) (lb.getD i 0))) (lc.getD i 0) = max (max 0 (la.getD i 0)) (max (max 0 (lb.getD i 0)) (lc.getD i 0)); omega
    · rw [t1, u1]
      show max (max 0 (mg [A, B]).1) c = max (max 0 a) (mg [B, C]).1
      rw [p1, r1]
      show max (max 0 (max (max 0 a) b)) c = max (max 0 a) (max (max 0 b) c); omega
  have wa : wi a la (mg [A, B]).1 (mg [A, B]).2 = true := by
    refine (wi_iff ..).2 ⟨fun i => ?_, ?_⟩
    · rw [p3]; show la.getD i 0 ≤ max (max 0 (la.getD i 0)) (lb.getD i 0); omega
    · rw [p1]; show a ≤ max (max 0 a) b; omega
  have wb : wi b lb (mg [A, B]).1 (mg [A, B]).2 = true := by
    refine (wi_iff ..).2 ⟨fun i => ?_, ?_⟩
    · rw [p3]; show lb.getD i 0 ≤ max (max 0 (la.getD i 0)) (lb.getD i 0); omega
    · rw [p1]; show b ≤ max (max 0 a) b; omega
  have above : wi a la c lc = true → wi b lb c lc = true → wi (mg [A, B]).1 (mg [A, B]).2 c lc = true := by
    intro x y
    obtain ⟨x1, x2⟩ := (wi_iff ..).1 x
    obtain ⟨y1, y2⟩ := (wi_iff ..).1 y
    refine (wi_iff ..).2 ⟨fun i => ?_, ?_⟩
    · rw [p3]; have := x1 i; have := y1 i; have := c4 i; show max (max 0 (la.getD i 0)) (lb.getD i 0) ≤ lc.getD i 0; omega
    · rw [p1]; show max (max 0 a) b ≤ c; omega
  refine ⟨K + KA + KB + KC + K1 + K2 + K3 + K4 + K5 + K6 + KM + 3, fun k hk => ?_⟩
  obtain ⟨m, rfl⟩ : ∃ m, k = m + 1 + 1 := ⟨k - 2, by omega⟩
  have e0 := hK (m + 1 + 1) (by omega)
  have e1 := hA (m + 1 + 1) (by omega)
  have e2 := hB (m + 1 + 1) (by omega)
  have e3 := hC (m + 1 + 1) (by omega)
  have f1 := h1' (m + 1) (by omega)
  have f2 := h2' (m + 1) (by omega)
  have f3 := h3' (m + 1) (by omega)
  have f4 := h4' (m + 1) (by omega)
  have f5 := h5' (m + 1) (by omega)
  have f6 := h6' (m + 1) (by omega)
  have f7 := hM m (by omega)
  simp only at e0 e1 e2 e3 f1 f2 f3 f4 f5 f6 f7
  show colloquylaw06_AttrJoins.f (m + 1 + 1) a la b lb c lc = _
  unfold colloquylaw06_AttrJoins.f
  rw [e0, e1, e2, e3, ma, mb, mc]
  simp only [Option.bind_some, if_true, Bool.not_true]
  rw [colloquylaw06_AttrJoins.j0, if_neg (by simp)]
  have last : ∀ x : Bool, x = true → colloquylaw06_AttrJoins.j1 (m + 1) true true true x a la b lb (mg [A, B]).1 (mg [A, B]).2 = some true := by
    intro x hx
    subst hx
    rw [colloquylaw06_AttrJoins.j1, attr_Within.eq, attr_Within.eq, wa, wb, f7, hmay]
    rfl
  have g1 : attr_MergeV.f (m + 1) [(⟨a, la⟩ : S27), ⟨b, lb⟩] = some (mg [A, B]) := f1
  have g2 : attr_MergeV.f (m + 1) [(⟨b, lb⟩ : S27), ⟨a, la⟩] = some (mg [B, A]) := f2
  have g3 : attr_MergeV.f (m + 1) [(⟨a, la⟩ : S27), ⟨b, lb⟩, ⟨a, la⟩, ⟨(mg [A, B]).1, (mg [A, B]).2⟩] = some (mg [A, B, A, ⟨(mg [A, B]).1, (mg [A, B]).2⟩]) := f3
  have g4 : attr_MergeV.f (m + 1) [(⟨(mg [A, B]).1, (mg [A, B]).2⟩ : S27), ⟨c, lc⟩] = some (mg [⟨(mg [A, B]).1, (mg [A, B]).2⟩, C]) := f4
  have g5 : attr_MergeV.f (m + 1) [(⟨b, lb⟩ : S27), ⟨c, lc⟩] = some (mg [B, C]) := f5
  have g6 : attr_MergeV.f (m + 1) [(⟨a, la⟩ : S27), ⟨(mg [B, C]).1, (mg [B, C]).2⟩] = some (mg [A, ⟨(mg [B, C]).1, (mg [B, C]).2⟩]) := f6
  clear_value A B C
  rw [g1]
  simp only [Option.bind_some]
  rw [g2]
  simp only [Option.bind_some]
  rw [attr_Same.eq, one]
  simp only [Option.bind_some]
  rw [g3]
  simp only [Option.bind_some]
  rw [attr_Same.eq, two]
  simp only [Option.bind_some]
  rw [g4]
  simp only [Option.bind_some]
  rw [g5]
  simp only [Option.bind_some]
  rw [g6]
  simp only [Option.bind_some]
  rw [attr_Same.eq, three]
  simp only [Option.bind_some]
  rw [attr_Within.eq]
  simp only [Option.bind_some]
  cases hx : wi a la c lc with
  | false => rw [if_neg (by simp)]; exact last true rfl
  | true =>
    rw [if_pos rfl, attr_Within.eq]
    simp only [Option.bind_some]
    cases hy : wi b lb c lc with
    | false => rw [if_neg (by simp)]; exact last true rfl
    | true =>
      rw [if_pos rfl, attr_Within.eq]
      simp only [Option.bind_some]
      exact last _ (above hx hy)
end Go.Proofs.Ytolfjfepehmfgaa.P
