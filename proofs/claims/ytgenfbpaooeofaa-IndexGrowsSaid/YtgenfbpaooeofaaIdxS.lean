/- What an index tells, by a list of what is known: plain laws. No condition but each theorem's own. -/
import Derived.Test.YtgenfbpaooeofaaPx0
import Derived.Test.YtgenfbpaooeofaaPx4
import Derived.Test.YtgenfbpaooeofaaPx5
namespace Go.Proofs.Ytgenfbpaooeofaa.P
open Go.RowKit Go.Proofs.YtgenfbpaooeofaaW.PrintWords Go.Proofs.YtgenfbpaooeofaaW.PrintLast Go.Proofs.YtgenfbpaooeofaaW.PrintMore
set_option linter.unusedVariables false
set_option linter.unusedSimpArgs false
def interK (c d : S24) : Bool := (kOf c).any fun x => (kOf d).any fun y => meetB x y
theorem inter_f (c d : S24) : keys_Interfere.f c.f0 c.f1 c.f2 c.f3 c.f4 c.f5 d.f0 d.f1 d.f2 d.f3 d.f4 d.f5 = some (interK c d) := rfl
/-- does a command wait for one that is known? -/
def relB (m : Int) (c : S24) (sf : S26) (k : S29) : Bool := mayI m k.f0 && interK c k.f1 && !(decide (k.f0 = sf))
theorem del_nil_fold (i : S26) : ∀ l : List S57, l.foldl (delG i) (fun _ => []) = fun _ => []
  | [] => rfl
  | K :: l => by rw [List.foldl_cons, delG_none i (fun _ => []) K rfl]; exact del_nil_fold i l
theorem put_same (i : S26) (s : Int) : M.put [(i, s)] i s = [(i, s)] := by simp [M.put]
theorem put_fold (i : S26) (s : Int) : ∀ (l : List S57) (G : S57 → List (S26 × Int)), (∀ K, G K = [] ∨ G K = [(i, s)]) → ∀ K, l.foldl (putG i s) G K = if K ∈ l then [(i, s)] else G K
  | [], G, h, K => by simp
  | K0 :: l, G, h, K => by
    rw [List.foldl_cons, put_fold i s l]
    · by_cases hl : K ∈ l
      · rw [if_pos hl, if_pos (by simp [hl])]
      · rw [if_neg hl]
        by_cases hk : K = K0
        · subst hk
          rw [if_pos (by simp), putG_at]
          rcases h K with e | e
          · rw [e]; rfl
          · rw [e, put_same]
        · rw [if_neg (by simp [hl, hk]), putG_ne _ _ _ _ _ hk]
    · intro K'
      by_cases hk : K' = K0
      · subst hk
        rw [putG_at]
        rcases h K' with e | e
        · rw [e]; exact Or.inr rfl
        · rw [e, put_same]; exact Or.inr rfl
      · rw [putG_ne _ _ _ _ _ hk]; exact h K'
theorem one_rows (m : Int) (k : S29) (K : S57) : (putP m [] (fun _ => []) k).2 K = if mayI m k.f0 = true ∧ K ∈ kOf k.f1 then [(k.f0, k.f2)] else [] := by
  unfold putP
  by_cases hm : mayI m k.f0 = true
  · rw [if_pos hm]
    show (kOf k.f1).foldl (putG k.f0 k.f2) ((kOf (oldK [] k.f0).f1).foldl (delG k.f0) fun _ => []) K = _
    rw [del_nil_fold, put_fold _ _ _ _ (fun _ => Or.inl rfl)]
    by_cases hk : K ∈ kOf k.f1
    · rw [if_pos hk, if_pos ⟨hm, hk⟩]
    · rw [if_neg hk, if_neg (fun h => hk h.2)]
  · rw [if_neg hm, if_neg (fun h => hm h.1)]
theorem mx_same (a b : Int) : mx (mx a b) b = mx a b := by unfold mx; repeat' split <;> omega
theorem rd_set (l : List Int) (i : Int) (v : Int) (h0 : 0 ≤ i) (h : i < l.length) : rd (l.set i.toNat v) i = v := by
  unfold rd
  rw [List.getD_eq_getElem?_getD, List.getElem?_set_self (by omega)]
  rfl
theorem stepA_twice (sf : S26) (a : Int × List Int) (p : S26 × Int) (h : 1 ≤ p.1.f0 ∧ p.1.f0 ≤ a.2.length) : stepA sf (stepA sf a p) p = stepA sf a p := by
  unfold stepA
  by_cases e : p.1 = sf
  · simp only [if_pos e]
  · simp only [if_neg e]
    refine Prod.ext (mx_same _ _) ?_
    show (a.2.set _ _).set _ _ = a.2.set _ _
    rw [List.set_set, rd_set _ _ _ (by omega) (by omega), mx_same]
theorem all_same (sf : S26) (p : S26 × Int) : ∀ (l : List (S26 × Int)) (a : Int × List Int), (1 ≤ p.1.f0 ∧ p.1.f0 ≤ a.2.length) → (∀ q ∈ l, q = p) → l ≠ [] → l.foldl (stepA sf) a = stepA sf a p
  | [], _, _, _, h => absurd rfl h
  | q :: l, a, hb, hq, _ => by
    have e := hq q (by simp)
    subst e
    rw [List.foldl_cons]
    cases l with
    | nil => rfl
    | cons x l =>
      have hl : (stepA sf a q).2.length = a.2.length := step_len sf [q] a
      rw [all_same sf q (x :: l) (stepA sf a q) (by rw [hl]; exact hb) (fun y hy => hq y (by simp [List.mem_cons.1 hy])) (by simp)]
      exact stepA_twice sf a q hb
theorem rows_any (m : Int) (c : S24) (k : S29) (q : S26 × Int) : q ∈ (kOf c).flatMap (rowsOf (putP m [] (fun _ => []) k).2) ↔ q = (k.f0, k.f2) ∧ mayI m k.f0 = true ∧ interK c k.f1 = true := by
  have hrow : ∀ (x : S57) (ch : Bool), q ∈ rowOf (putP m [] (fun _ => []) k).2 x ch ↔ q = (k.f0, k.f2) ∧ mayI m k.f0 = true ∧ meetB x (withCh x ch) = true ∧ withCh x ch ∈ kOf k.f1 := by
    intro x ch
    unfold rowOf
    by_cases hm : meetB x (withCh x ch) = true
    · rw [if_pos hm, one_rows]
      by_cases h2 : mayI m k.f0 = true ∧ withCh x ch ∈ kOf k.f1
      · rw [if_pos h2]; simp [h2.1, h2.2, hm]
      · rw [if_neg h2]
        simp only [List.not_mem_nil, false_iff]
        exact fun h => h2 ⟨h.2.1, h.2.2.2⟩
    · rw [if_neg hm]
      simp only [List.not_mem_nil, false_iff]
      exact fun h => hm h.2.2.1
  rw [List.mem_flatMap]
  unfold interK
  constructor
  · rintro ⟨x, hx, hq⟩
    unfold rowsOf at hq
    rcases List.mem_append.1 hq with hq | hq
    · obtain ⟨e, h1, h2, h3⟩ := (hrow x true).1 hq
      exact ⟨e, h1, List.any_eq_true.2 ⟨x, hx, List.any_eq_true.2 ⟨_, h3, h2⟩⟩⟩
    · obtain ⟨e, h1, h2, h3⟩ := (hrow x false).1 hq
      exact ⟨e, h1, List.any_eq_true.2 ⟨x, hx, List.any_eq_true.2 ⟨_, h3, h2⟩⟩⟩
  · rintro ⟨e, h1, h⟩
    obtain ⟨x, hx, h⟩ := List.any_eq_true.1 h
    obtain ⟨y, hy, h⟩ := List.any_eq_true.1 h
    refine ⟨x, hx, ?_⟩
    have hxy : withCh x y.f2 = y := by
      unfold meetB at h
      simp only [Bool.and_eq_true, beq_iff_eq, decide_eq_true_eq] at h
      obtain ⟨⟨h2, h3⟩, h4⟩ := h
      cases x; cases y
      simp only at h2 h3
      subst h2 h3
      rfl
    have := (hrow x y.f2).2 ⟨e, h1, by rw [hxy]; exact h, by rw [hxy]; exact hy⟩
    unfold rowsOf
    cases hf : y.f2 with
    | true => rw [hf] at this; exact List.mem_append_left _ this
    | false => rw [hf] at this; exact List.mem_append_right _ this
/-- what one that is known makes -/
theorem oneP_eq (m : Int) (hm : 1 ≤ m) (k : S29) (c : S24) (sf : S26) : oneP m k c sf = if relB m c sf k = true then (wrap64 (mx 0 k.f2 + 1), (List.replicate m.toNat 0).set (k.f0.f0 - 1).toNat (mx 0 k.f0.f1)) else (1, List.replicate m.toNat 0) := by
  have hwr : wrap64 (0 + 1) = 1 := by unfold wrap64; omega
  have hwr1 : wrap64 1 = 1 := by unfold wrap64; omega
  have hzero : ∀ i : Int, rd (List.replicate m.toNat 0) i = 0 := fun i => by
    unfold rd
    rw [List.getD_eq_getElem?_getD, List.getElem?_replicate]
    split <;> rfl
  unfold oneP attrP foldA relB
  by_cases hc : mayI m k.f0 = true ∧ interK c k.f1 = true
  · have hb : 1 ≤ k.f0.f0 ∧ k.f0.f0 ≤ m := by
      have := hc.1
      unfold mayI at this
      simp only [Bool.and_eq_true, decide_eq_true_eq] at this
      exact ⟨this.1.1.1, this.1.1.2⟩
    rw [all_same sf (k.f0, k.f2) _ _ (by simp; omega) (fun q hq => ((rows_any m c k q).1 hq).1) (List.ne_nil_of_mem ((rows_any m c k _).2 ⟨rfl, hc.1, hc.2⟩))]
    rw [hc.1, hc.2]
    unfold stepA
    by_cases e : k.f0 = sf
    · simp [e, hwr, hwr1]
    · simp [e, hzero]
  · have hnil : (kOf c).flatMap (rowsOf (putP m [] (fun _ => []) k).2) = [] := List.eq_nil_iff_forall_not_mem.2 (fun q hq => hc ((rows_any m c k q).1 hq).2)
    rw [hnil, List.foldl_nil, if_neg, hwr]
    intro h
    simp only [Bool.and_eq_true] at h
    exact hc h.1
/-- one more, as the document says it -/
def spS (m : Int) (c : S24) (sf : S26) (a : Int × List Int) (k : S29) : Int × List Int := if relB m c sf k = true then (mx a.1 k.f2, a.2.set (k.f0.f0 - 1).toNat (mx (rd a.2 (k.f0.f0 - 1)) k.f0.f1)) else a
def good (m : Int) (a : Int × List Int) : Prop := 0 ≤ a.1 ∧ a.1 ≤ 1099511627776 ∧ a.2.length = m.toNat ∧ ∀ i : Int, 0 ≤ rd a.2 i
theorem rd_setN (l : List Int) (i : Nat) (v : Int) (j : Int) : rd (l.set i v) j = if i = j.toNat ∧ i < l.length then v else rd l j := by
  unfold rd
  rw [List.getD_eq_getElem?_getD, List.getElem?_set, List.getD_eq_getElem?_getD]
  by_cases h : i = j.toNat
  · rw [if_pos h]
    by_cases h2 : i < l.length
    · rw [if_pos h2, if_pos ⟨h, h2⟩]; rfl
    · rw [if_neg h2, if_neg (fun h3 => h2 h3.2)]
      rw [List.getElem?_eq_none (by omega)]
  · rw [if_neg h, if_neg (fun h3 => h h3.1)]
theorem mx_ge (a b : Int) : a ≤ mx a b ∧ b ≤ mx a b := by unfold mx; split <;> omega
theorem good_step (m : Int) (c : S24) (sf : S26) (a : Int × List Int) (k : S29) (h : good m a) (hk : k.f2 ≤ 1099511627776) : good m (spS m c sf a k) := by
  unfold spS
  by_cases hr : relB m c sf k = true
  · rw [if_pos hr]
    obtain ⟨h1, h2, h3, h4⟩ := h
    refine ⟨?_, ?_, by simp [h3], fun i => ?_⟩
    · have := mx_ge a.1 k.f2; show 0 ≤ mx a.1 k.f2; omega
    · show mx a.1 k.f2 ≤ _; unfold mx; split <;> omega
    · show 0 ≤ rd (a.2.set _ _) i
      rw [rd_setN]
      split
      · have := mx_ge (rd a.2 (k.f0.f0 - 1)) k.f0.f1; have := h4 (k.f0.f0 - 1); omega
      · exact h4 i
  · rw [if_neg hr]; exact h
theorem zip_set (l : List Int) (i : Nat) (v : Int) (h : ∀ j : Int, 0 ≤ rd l j) : List.zipWith mx l ((List.replicate l.length 0).set i (mx 0 v)) = l.set i (mx (rd l i) v) := by
  apply List.ext_getElem
  · simp
  · intro j h1 h2
    have hj : j < l.length := by simpa using h2
    have hp := h (j : Int)
    rw [rd_nat l j hj] at hp
    rw [List.getElem_zipWith, List.getElem_set, List.getElem_set]
    by_cases e : i = j
    · subst e
      rw [if_pos rfl, if_pos rfl, rd_nat l i hj]
      unfold mx; repeat' split <;> omega
    · rw [if_neg e, if_neg e, List.getElem_replicate]
      unfold mx; split <;> omega
theorem zip_zero (l : List Int) (h : ∀ j : Int, 0 ≤ rd l j) : List.zipWith mx l (List.replicate l.length 0) = l := by
  apply List.ext_getElem
  · simp
  · intro j h1 h2
    have hp := h (j : Int)
    rw [rd_nat l j h2] at hp
    rw [List.getElem_zipWith, List.getElem_replicate]
    unfold mx; split <;> omega
theorem stepO_eq (m : Int) (hm : 1 ≤ m) (c : S24) (sf : S26) (a : Int × List Int) (k : S29) (h : good m a) (hk : k.f2 ≤ 1099511627776) : stepO m c sf (a.1 + 1, a.2) k = ((spS m c sf a k).1 + 1, (spS m c sf a k).2) := by
  obtain ⟨h1, h2, h3, h4⟩ := h
  unfold stepO spS
  rw [oneP_eq m hm]
  by_cases hr : relB m c sf k = true
  · rw [if_pos hr, if_pos hr]
    refine Prod.ext ?_ ?_
    · show mx (a.1 + 1) (wrap64 (mx 0 k.f2 + 1)) = mx a.1 k.f2 + 1
      have hw : wrap64 (mx 0 k.f2 + 1) = mx 0 k.f2 + 1 := by
        have h5 : 0 ≤ mx 0 k.f2 ∧ mx 0 k.f2 ≤ 1099511627776 := by unfold mx; split <;> omega
        unfold wrap64; omega
      rw [hw]
      unfold mx; repeat' split <;> omega
    · show List.zipWith mx a.2 ((List.replicate m.toNat 0).set _ _) = a.2.set _ _
      rw [← h3, zip_set a.2 _ _ h4]
      have hb : 1 ≤ k.f0.f0 := by
        unfold relB mayI at hr
        simp only [Bool.and_eq_true, decide_eq_true_eq] at hr
        exact hr.1.1.1.1.1
      rw [show (((k.f0.f0 - 1).toNat : Nat) : Int) = k.f0.f0 - 1 by omega]
  · rw [if_neg hr, if_neg hr]
    refine Prod.ext ?_ ?_
    · show mx (a.1 + 1) 1 = a.1 + 1
      unfold mx; split <;> omega
    · show List.zipWith mx a.2 (List.replicate m.toNat 0) = a.2
      rw [← h3]
      exact zip_zero a.2 h4
theorem ofP_from (m : Int) (hm : 1 ≤ m) (c : S24) (sf : S26) : ∀ (l : List S29) (a : Int × List Int), good m a → (∀ k ∈ l, k.f2 ≤ 1099511627776) → l.foldl (stepO m c sf) (a.1 + 1, a.2) = ((l.foldl (spS m c sf) a).1 + 1, (l.foldl (spS m c sf) a).2) ∧ good m (l.foldl (spS m c sf) a)
  | [], a, h, _ => ⟨rfl, h⟩
  | k :: l, a, h, hk => by
    rw [List.foldl_cons, List.foldl_cons, stepO_eq m hm c sf a k h (hk k (by simp))]
    exact ofP_from m hm c sf l _ (good_step m c sf a k h (hk k (by simp))) (fun x hx => hk x (by simp [hx]))
theorem good_zero (m : Int) : good m (0, List.replicate m.toNat 0) := ⟨Int.le_refl _, by (show (0 : Int) ≤ 1099511627776; decide), by simp, fun i => by
  show 0 ≤ rd (List.replicate m.toNat 0) i
  unfold rd
  rw [List.getD_eq_getElem?_getD, List.getElem?_replicate]
  split <;> decide⟩
theorem ofP_eq (m : Int) (hm : 1 ≤ m) (c : S24) (sf : S26) (l : List S29) (hk : ∀ k ∈ l, k.f2 ≤ 1099511627776) : ofP m l c sf = ((l.foldl (spS m c sf) (0, List.replicate m.toNat 0)).1 + 1, (l.foldl (spS m c sf) (0, List.replicate m.toNat 0)).2) := by
  have h0 : attrP m (fun _ => []) c sf = ((0 : Int) + 1, List.replicate m.toNat 0) := by
    unfold attrP foldA
    have : (kOf c).flatMap (rowsOf (fun _ => [])) = [] := List.eq_nil_iff_forall_not_mem.2 (fun q hq => by
      obtain ⟨x, _, hx⟩ := List.mem_flatMap.1 hq
      unfold rowsOf rowOf at hx
      simp at hx)
    rw [this]
    refine Prod.ext ?_ rfl
    show wrap64 (0 + 1) = 0 + 1
    unfold wrap64; omega
  unfold ofP
  rw [h0]
  exact (ofP_from m hm c sf l (0, List.replicate m.toNat 0) (good_zero m) hk).1
end Go.Proofs.Ytgenfbpaooeofaa.P
