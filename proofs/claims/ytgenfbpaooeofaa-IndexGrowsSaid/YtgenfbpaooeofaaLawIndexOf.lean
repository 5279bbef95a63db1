/- The document's answer for an index, and the plain side of the law IndexOf. No condition but each theorem's own. -/
import Derived.Test.YtgenfbpaooeofaaPx0
import Derived.Test.YtgenfbpaooeofaaPx5
import Derived.Test.YtgenfbpaooeofaaPx6
import Derived.Test.YtgenfbpaooeofaaPx8
import Derived.Test.YtgenfbpaooeofaaPx9
import Derived.Test.YtgenfbpaooeofaaKeys
import Derived.Test.YtgenfbpaooeofaaKeysRef
import Derived.Test.YtgenfbpaooeofaaIdxS
import Derived.Test.YtgenfbpaooeofaaAttrD
import Derived.Test.YtgenfbpaooeofaaAttrW
namespace Go.Proofs.Ytgenfbpaooeofaa.P
open Go.RowKit Go.Proofs.YtgenfbpaooeofaaW.PrintWords Go.Proofs.YtgenfbpaooeofaaW.PrintLast Go.Proofs.YtgenfbpaooeofaaW.PrintMore
set_option linter.unusedVariables false
set_option linter.unusedSimpArgs false
theorem refMayI (m : Int) (i : S26) : colloquyref08_may.f i.f0 i.f1 m = some (mayI m i) := by
  unfold colloquyref08_may.f mayI
  by_cases h1 : 1 ≤ i.f0 <;> by_cases h2 : i.f0 ≤ m <;> by_cases h3 : 1 ≤ i.f1 <;> simp [h1, h2, h3]
theorem refBnd (n : Int) : colloquyref08_bound.f n = some (bnd n) := by
  unfold colloquyref08_bound.f bnd mn mx
  by_cases h1 : n < 1
  · simp [h1]
  · by_cases h2 : n > 7
    · simp [h1, h2]
    · simp [h1, h2]
theorem rdTK_at (l : List S29) (i : Nat) (h : i < l.length) : rd_T29 l (i : Int) = l[i] := by
  unfold rd_T29; simp [List.getD_eq_getElem?_getD, List.getElem?_eq_getElem h]
theorem interK_B (c d : S24) : interK c d = interB c d := rfl
theorem selfB (k : S29) (sf : S26) : (k.f0.f0 == sf.f0 && (k.f0.f1 == sf.f1)) = decide (k.f0 = sf) := by
  by_cases h : k.f0 = sf
  · rw [h]; simp
  · rw [decide_eq_false h]
    by_cases h1 : k.f0.f0 = sf.f0 <;> by_cases h2 : k.f0.f1 = sf.f1 <;> simp [h1, h2]
    exact h (by cases hk : k.f0; cases sf; rw [hk] at h1 h2; simp_all)
theorem refOf_l0 (m : Int) (hm : 1 ≤ m ∧ m ≤ 7) (l : List S29) (hl : l.length ≤ 9223372036854775806) (c : S24) (sf : S26) (hk : ∀ k ∈ l, k.f2 ≤ 1099511627776) : ∀ (d i : Nat) (a : Int × List Int) (K : Nat), l.length - i ≤ d → i ≤ l.length → good m a → 2 * d + 6 ≤ K →
    colloquyref08_Of.l0 K l m a.1 a.2 (i : Int) c.f0 c.f1 c.f2 c.f3 c.f4 c.f5 sf.f0 sf.f1 = some (((l.drop i).foldl (spS m c sf) a).1 + 1, ((l.drop i).foldl (spS m c sf) a).2) := by
  intro d
  induction d with
  | zero =>
    intro i a K hd hi hg hK
    obtain ⟨K, rfl⟩ : ∃ q, K = q + 1 := ⟨K - 1, by omega⟩
    have : i = l.length := by omega
    subst this
    simp only [colloquyref08_Of.l0]
    rw [if_neg (by omega), List.drop_length, List.foldl_nil]
    have h1 := hg.1
    have h2 := hg.2.1
    rw [show wrap64 (a.1 + 1) = a.1 + 1 by unfold wrap64; omega]
  | succ d ih =>
    intro i a K hd hi hg hK
    by_cases hlt : i < l.length
    · obtain ⟨K, rfl⟩ : ∃ q, K = q + 4 := ⟨K - 4, by omega⟩
      have hw : wrap64 ((i : Int) + 1) = ((i + 1 : Nat) : Int) := by unfold wrap64; omega
      obtain ⟨y, hy⟩ : ∃ y, l[i] = y := ⟨_, rfl⟩
      have hdrop : l.drop i = y :: l.drop (i + 1) := by rw [← hy]; exact List.drop_eq_getElem_cons hlt
      have hyk : y.f2 ≤ 1099511627776 := hk y (by rw [← hy]; exact List.getElem_mem hlt)
      have hgo := good_step m c sf a y hg hyk
      rw [hdrop, List.foldl_cons]
      rw [show K + 4 = (K + 3) + 1 from rfl]
      simp only [colloquyref08_Of.l0]
      rw [if_pos (by omega), if_pos (by omega), rdTK_at l i hlt, hy, refMayI m y.f0]
      rw [show K + 3 = (K + 1) + 2 from rfl, refInter_eq (K + 1) c y.f1]
      simp only [Option.bind_some, selfB, hw, ← interK_B]
      have hno : relB m c sf y = false → colloquyref08_Of.l0 (K + 2) l m a.1 a.2 ((i + 1 : Nat) : Int) c.f0 c.f1 c.f2 c.f3 c.f4 c.f5 sf.f0 sf.f1 = some (((l.drop (i + 1)).foldl (spS m c sf) (spS m c sf a y)).1 + 1, ((l.drop (i + 1)).foldl (spS m c sf) (spS m c sf a y)).2) := fun hr => by
        have : spS m c sf a y = a := by unfold spS; rw [hr, if_neg (by simp)]
        rw [this] at hgo ⊢
        exact ih (i + 1) a (K + 2) (by omega) (by omega) hgo (by omega)
      by_cases h1 : mayI m y.f0 = true
      · rw [if_pos h1]
        by_cases h2 : interK c y.f1 = true
        · rw [if_pos h2, show K + 1 + 2 = (K + 2) + 1 from rfl]
          simp only [colloquyref08_Of.j1, hw]
          by_cases h3 : y.f0 = sf
          · rw [decide_eq_true h3, if_pos rfl]
            exact hno (by unfold relB; rw [h1, h2, decide_eq_true h3]; rfl)
          · rw [decide_eq_false h3, if_neg (by simp)]
            have hr : relB m c sf y = true := by unfold relB; rw [h1, h2, decide_eq_false h3]; rfl
            have hb : 1 ≤ y.f0.f0 ∧ y.f0.f0 ≤ m := by
              unfold mayI at h1
              simp only [Bool.and_eq_true, decide_eq_true_eq] at h1
              exact ⟨h1.1.1.1, h1.1.1.2⟩
            have hwb : wrap64 (y.f0.f0 - 1) = y.f0.f0 - 1 := by unfold wrap64; omega
            have hlen := hg.2.2.1
            rw [hwb]
            have hs : spS m c sf a y = (mx a.1 y.f2, a.2.set (y.f0.f0 - 1).toNat (mx (rd a.2 (y.f0.f0 - 1)) y.f0.f1)) := by unfold spS; rw [if_pos hr]
            have hset : ¬ y.f0.f1 > rd a.2 (y.f0.f0 - 1) → a.2.set (y.f0.f0 - 1).toNat (mx (rd a.2 (y.f0.f0 - 1)) y.f0.f1) = a.2 := fun hc => by
              rw [show mx (rd a.2 (y.f0.f0 - 1)) y.f0.f1 = rd a.2 (y.f0.f0 - 1) by unfold mx; rw [if_neg (by omega)]]
              apply List.ext_getElem
              · simp
              · intro q q1 q2
                rw [List.getElem_set]
                split
                · rename_i e
                  rw [show y.f0.f0 - 1 = ((q : Nat) : Int) by omega, rd_nat _ _ q2]
                · rfl
            have hgo2 := ih (i + 1) (spS m c sf a y) (K + 2) (by omega) (by omega) hgo (by omega)
            rw [hs] at hgo2 ⊢
            have key : ∀ (s : Int) (z : List Int), s = mx a.1 y.f2 → z = a.2.set (y.f0.f0 - 1).toNat (mx (rd a.2 (y.f0.f0 - 1)) y.f0.f1) → colloquyref08_Of.l0 (K + 2) l m s z ((i + 1 : Nat) : Int) c.f0 c.f1 c.f2 c.f3 c.f4 c.f5 sf.f0 sf.f1 = some (((l.drop (i + 1)).foldl (spS m c sf) (mx a.1 y.f2, a.2.set (y.f0.f0 - 1).toNat (mx (rd a.2 (y.f0.f0 - 1)) y.f0.f1))).1 + 1, ((l.drop (i + 1)).foldl (spS m c sf) (mx a.1 y.f2, a.2.set (y.f0.f0 - 1).toNat (mx (rd a.2 (y.f0.f0 - 1)) y.f0.f1))).2) := fun s z e1 e2 => by
              rw [e1, e2]; exact hgo2
            by_cases h5 : y.f2 > a.1
            · rw [if_pos h5, if_pos (by omega), if_pos (by omega)]
              have e1 : y.f2 = mx a.1 y.f2 := by unfold mx; rw [if_pos (by omega)]
              by_cases h6 : y.f0.f1 > rd a.2 (y.f0.f0 - 1)
              · rw [if_pos h6]
                exact key _ _ e1 (by unfold mx; rw [if_pos (by omega)])
              · rw [if_neg h6]
                exact key _ _ e1 (hset h6).symm
            · rw [if_neg h5, if_pos (by omega), if_pos (by omega)]
              have e1 : a.1 = mx a.1 y.f2 := by unfold mx; rw [if_neg (by omega)]
              by_cases h6 : y.f0.f1 > rd a.2 (y.f0.f0 - 1)
              · rw [if_pos h6]
                exact key _ _ e1 (by unfold mx; rw [if_pos (by omega)])
              · rw [if_neg h6]
                exact key _ _ e1 (hset h6).symm
        · rw [if_neg h2, show K + 1 + 2 = (K + 2) + 1 from rfl]
          simp only [colloquyref08_Of.j1, hw]
          exact hno (by unfold relB; rw [Bool.eq_false_iff.2 h2]; simp)
      · rw [if_neg h1, show K + 1 + 2 = (K + 2) + 1 from rfl]
        simp only [colloquyref08_Of.j1, hw]
        exact hno (by unfold relB; rw [Bool.eq_false_iff.2 h1]; simp)
    · exact ih i a K (by omega) hi hg (by omega)
theorem refOf_eq (n : Int) (l : List S29) (hl : l.length ≤ 60) (c : S24) (sf : S26) (hk : ∀ k ∈ l, k.f2 ≤ 1099511627776) (K : Nat) (hK : 200 ≤ K) :
    colloquyref08_Of.f K l c.f0 c.f1 c.f2 c.f3 c.f4 c.f5 sf.f0 sf.f1 n = some (ofP (bnd n) l c sf) := by
  have hb := bnd_in n
  unfold colloquyref08_Of.f
  rw [refBnd]
  simp only [Option.bind_some]
  rw [if_pos (by omega), if_pos (by omega), ofP_eq (bnd n) hb.1 c sf l hk]
  have := refOf_l0 (bnd n) hb l (by omega) c sf hk l.length 0 (0, List.replicate (bnd n).toNat 0) K (by omega) (by omega) (good_zero _) (by omega)
  rw [List.drop_zero] at this
  exact this
theorem IndexOf.pure (l : List S29) (c : S24) (sf : S26) (n : Int) : ∃ k, colloquylaw08_IndexOf.f k l c.f0 c.f1 c.f2 c.f3 c.f4 c.f5 sf.f0 sf.f1 n = some true := by
  unfold colloquylaw08_IndexOf.f colloquylaw08_awake.f
  simp only [Option.bind_some, if_true]
  by_cases h60 : (l.length : Int) > 60
  · refine ⟨1, ?_⟩
    rw [decide_eq_true h60]
    simp only [colloquylaw08_IndexOf.j0]
    rfl
  · have hl : l.length ≤ 60 := by omega
    have hlen : (ofP (bnd n) l c sf).2.length ≤ 4611686018427387904 := by
      have : ∀ (l : List S29) (a : Int × List Int), a.2.length ≤ 7 → (l.foldl (stepO (bnd n) c sf) a).2.length ≤ 7 := by
        intro l
        induction l with
        | nil => intro a h; exact h
        | cons k l ih =>
          intro a h
          rw [List.foldl_cons]
          refine ih _ ?_
          unfold stepO
          rw [List.length_zipWith]
          omega
      have h7 := this l (attrP (bnd n) (fun _ => []) c sf) (by rw [attr_len]; have := bnd_in n; omega)
      have : (ofP (bnd n) l c sf).2.length ≤ 7 := h7
      omega
    obtain ⟨K0, hK0⟩ := ref_Same.ev (ofP (bnd n) l c sf).1 (ofP (bnd n) l c sf).2 (ofP (bnd n) l c sf).1 (ofP (bnd n) l c sf).2 hlen hlen
    have loop : ∀ (d i K : Nat), l.length - i ≤ d → i ≤ l.length → (∀ j (h : j < l.length), j < i → l[j].f2 ≤ 1099511627776) → d + K0 + 210 ≤ K →
        colloquylaw08_IndexOf.l0 K l n (i : Int) c.f0 c.f1 c.f2 c.f3 c.f4 c.f5 sf.f0 sf.f1 = some true := by
      intro d
      induction d with
      | zero =>
        intro i K hd hi hs hK
        obtain ⟨K, rfl⟩ : ∃ q, K = q + 1 := ⟨K - 1, by omega⟩
        have hk : ∀ k ∈ l, k.f2 ≤ 1099511627776 := fun k hk => by
          obtain ⟨j, hj, e⟩ := List.getElem_of_mem hk
          rw [← e]
          exact hs j hj (by omega)
        simp only [colloquylaw08_IndexOf.l0]
        rw [if_neg (by omega), show index_Of.f l c.f0 c.f1 c.f2 c.f3 c.f4 c.f5 sf.f0 sf.f1 n = some (ofP (bnd n) l c sf) from rfl, refOf_eq n l hl c sf hk K (by omega)]
        simp only [Option.bind_some]
        have hq : colloquyref06_Same.f K (ofP (bnd n) l c sf).1 (ofP (bnd n) l c sf).2 (ofP (bnd n) l c sf).1 (ofP (bnd n) l c sf).2 = _ := hK0 K (by omega)
        rw [hq]
        simp only [Option.bind_some, sm_refl, if_true, beq_self_eq_true]
      | succ d ih =>
        intro i K hd hi hs hK
        by_cases hlt : i < l.length
        · obtain ⟨K, rfl⟩ : ∃ q, K = q + 1 := ⟨K - 1, by omega⟩
          have hw : wrap64 ((i : Int) + 1) = ((i + 1 : Nat) : Int) := by unfold wrap64; omega
          simp only [colloquylaw08_IndexOf.l0]
          rw [if_pos (by omega), if_pos (by omega), rdTK_at l i hlt, hw]
          by_cases hb : l[i].f2 > 1099511627776
          · rw [if_pos hb]
          · rw [if_neg hb]
            exact ih (i + 1) K (by omega) (by omega) (fun j hj h => by
              by_cases e : j = i
              · subst e; omega
              · exact hs j hj (by omega)) (by omega)
        · exact ih i K (by omega) hi hs (by omega)
    refine ⟨l.length + K0 + 220, ?_⟩
    rw [decide_eq_false h60, show l.length + K0 + 220 = (l.length + K0 + 219) + 1 from rfl]
    simp only [colloquylaw08_IndexOf.j0]
    exact loop l.length 0 _ (by omega) (by omega) (fun j _ h => by omega) (by omega)
end Go.Proofs.Ytgenfbpaooeofaa.P
