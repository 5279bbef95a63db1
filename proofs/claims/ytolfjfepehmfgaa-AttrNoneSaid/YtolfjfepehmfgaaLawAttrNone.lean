/- The plain side of the law AttrNone. -/
import Derived.Test.YtolfjfepehmfgaaPx0
import Derived.Test.YtolfjfepehmfgaaPx1
import Derived.Test.YtolfjfepehmfgaaPx4
import Derived.Test.YtolfjfepehmfgaaPx5
import Derived.Test.YtolfjfepehmfgaaPx7
import Derived.Test.YtolfjfepehmfgaaPx10
import Derived.Test.YtolfjfepehmfgaaAttrA
import Derived.Test.YtolfjfepehmfgaaAttrW
import Derived.Test.YtolfjfepehmfgaaAttrMay
namespace Go.Proofs.Ytolfjfepehmfgaa.P
open Go.RowKit Go.Proofs.YtolfjfepehmfgaaW.PrintWords Go.Proofs.YtolfjfepehmfgaaW.PrintLast Go.Proofs.YtolfjfepehmfgaaW.PrintMore
set_option linter.unusedVariables false
theorem getD_zeros (l : List Int) (i : Nat) : (l ++ [0, 0]).getD i 0 = l.getD i 0 := by
  simp only [List.getD_eq_getElem?_getD]
  rcases Nat.lt_or_ge i l.length with h | h
  · rw [List.getElem?_append_left h]
  · rw [List.getElem?_append_right h, List.getElem?_eq_none h]
    rcases Nat.lt_or_ge (i - l.length) 2 with g | g
    · rcases (show i - l.length = 0 ∨ i - l.length = 1 by omega) with e | e <;> rw [e] <;> rfl
    · rw [List.getElem?_eq_none (by simpa using g)]
theorem AttrNone.pure (a : Int) (l : List Int) (b s : Int) (h0 : l.length ≤ 9223372036854775807) (hb : b ≤ 9223372036854775807) :
    ∃ k, colloquylaw06_AttrNone.f k a l b s = some true := by
  obtain ⟨K, hK⟩ := awake_ev
  replace hK : ∀ k, K ≤ k → colloquylaw06_awake.f k = some true := hK
  obtain ⟨K1, hK1⟩ := attr_May.ev a l 5 h0
  replace hK1 : ∀ k, K1 ≤ k → attr_May.f k a l 5 = some (mayA a l 5) := hK1
  cases hm : mayA a l 5 with
  | false =>
    refine ⟨K + K1 + 1, ?_⟩
    unfold colloquylaw06_AttrNone.f
    rw [hK _ (by omega), hK1 _ (by omega), hm]
    simp only [Option.bind_some, if_true, colloquylaw06_AttrNone.j0, Bool.not_false]
  | true =>
    obtain ⟨m1, m2, m3, m4, m5, m6⟩ := (mayA_iff ..).1 hm
    have hlen : l.length = 5 := by omega
    have hnn : ∀ i, 0 ≤ l.getD i 0 := by
      intro i
      rw [List.getD_eq_getElem?_getD]
      rcases Nat.lt_or_ge i l.length with h | h
      · rw [List.getElem?_eq_getElem h]; exact (m1 _ (List.getElem_mem h)).1
      · rw [List.getElem?_eq_none h]; exact Int.le_refl _
    let ls : List S27 := [⟨a, l⟩, ⟨0, []⟩]
    obtain ⟨K2, hK2⟩ := attr_Merge.ev ls (by show (2 : Nat) ≤ _; omega) (by
      intro x hx
      simp only [ls, List.mem_cons, List.mem_nil_iff, or_false] at hx
      rcases hx with rfl | rfl
      · show l.length ≤ _; omega
      · show (0 : Nat) ≤ _; omega)
    refine ⟨K + K1 + K2 + 1, ?_⟩
    have e2 : attr_Merge.f (K + K1 + K2) ls = some (mg ls) := hK2 _ (by omega)
    unfold colloquylaw06_AttrNone.f
    rw [hK _ (by omega), hK1 _ (by omega), hm]
    simp only [Option.bind_some, if_true, Bool.not_true, colloquylaw06_AttrNone.j0, Bool.false_eq_true, if_false, List.length_nil, List.nil_append, List.length_cons]
    rw [if_pos (by omega), if_pos (by omega)]
    have hs1 : attr_Within.f 0 [] a l = some true := by
      rw [attr_Within.eq, (wi_iff ..).2 ⟨fun i => by simpa using hnn i, m5⟩]
    have hs2 : attr_Same.f a l a (l ++ [0, 0]) = some true := by
      rw [attr_Same.eq, (sm_iff ..).2 ⟨fun i => (getD_zeros l i).symm, rfl⟩]
    have hg : mg ls = (mx (mx 0 a) 0, mxl (mxl [] l) []) := rfl
    have hs3 : attr_Same.f (mg ls).1 (mg ls).2 a l = some true := by
      rw [hg, attr_Same.eq, (sm_iff ..).2]
      refine ⟨fun i => ?_, ?_⟩
      · show (mxl (mxl [] l) []).getD i 0 = _
        rw [mxl_nil, mxl_get _ _ _ (fun x hx => by cases hx)]
        have := hnn i
        simp only [List.getD_nil]; omega
      · show mx (mx 0 a) 0 = a
        rw [mx_eq, mx_eq]; omega
    have ew : ∀ (x : List Int), x.length ≤ 9223372036854775807 → attr_Waits.f a x b s = some (wt x b s) := fun x hx => attr_Waits.eq a x hx b s hb
    have hw : wt (l ++ [0, 0]) b s = wt l b s := by
      unfold wt depOf; simp only [getD_zeros]
    have hl2 : (l ++ [0, 0]).length ≤ 9223372036854775807 := by rw [List.length_append]; show l.length + 2 ≤ _; omega
    have hl1 : l.length ≤ 9223372036854775807 := by omega
    rw [hs1]
    simp only [Option.bind_some, if_true]
    rw [hs2]
    simp only [Option.bind_some, if_true]
    have e3 : attr_Merge.f (K + K1 + K2) [(⟨a, l⟩ : S27), ⟨0, []⟩] = some (mg ls) := e2
    rw [e3]
    simp only [Option.bind_some]
    rw [hs3]
    simp only [Option.bind_some, if_true]
    rw [ew l hl1, ew _ hl2, hw]
    simp only [Option.bind_some, beq_self_eq_true]
    by_cases hs : s ≥ 1
    · rw [if_pos hs]
    · rw [if_neg hs]
      have : wt l b s = false := by
        unfold wt; rw [decide_eq_false (by omega)]; rfl
      rw [this]; rfl
end Go.Proofs.Ytolfjfepehmfgaa.P
