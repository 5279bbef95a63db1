/- The plain side of the law IndexGrows. No condition but each theorem's own. -/
import Derived.Test.YtgenfbpaooeofaaPx0
import Derived.Test.YtgenfbpaooeofaaPx4
import Derived.Test.YtgenfbpaooeofaaPx5
import Derived.Test.YtgenfbpaooeofaaPx6
import Derived.Test.YtgenfbpaooeofaaGrC
import Derived.Test.YtgenfbpaooeofaaLawIndexOf
namespace Go.Proofs.Ytgenfbpaooeofaa.P
open Go.RowKit Go.Proofs.YtgenfbpaooeofaaW.PrintWords Go.Proofs.YtgenfbpaooeofaaW.PrintLast Go.Proofs.YtgenfbpaooeofaaW.PrintMore
set_option linter.unusedVariables false
set_option linter.unusedSimpArgs false
theorem Grows.two (n : Int) (l : List S29) (k : S29) (c : S24) (sf : S26) (hk : ∀ x ∈ l, x.f2 ≤ 1099511627776) (hk2 : k.f2 ≤ 1099511627776) :
    wi (ofP (bnd n) l c sf).1 (ofP (bnd n) l c sf).2 (ofP (bnd n) (l ++ [k]) c sf).1 (ofP (bnd n) (l ++ [k]) c sf).2 = true ∧ (interK c k.f1 = false → ofP (bnd n) (l ++ [k]) c sf = ofP (bnd n) l c sf) := by
  have hb := bnd_in n
  rw [ofP_eq (bnd n) hb.1 c sf l hk, ofP_eq (bnd n) hb.1 c sf (l ++ [k]) (fun x hx => by
    rcases List.mem_append.1 hx with h | h
    · exact hk x h
    · rw [List.mem_singleton.1 h]; exact hk2), List.foldl_append, List.foldl_cons, List.foldl_nil]
  generalize l.foldl (spS (bnd n) c sf) (0, List.replicate (bnd n).toNat 0) = a
  refine ⟨?_, fun h => ?_⟩
  · rw [wi_iff]
    unfold spS
    by_cases hr : relB (bnd n) c sf k = true
    · rw [if_pos hr]
      refine ⟨fun i => ?_, ?_⟩
      · show a.2.getD i 0 ≤ (a.2.set _ _).getD i 0
        rw [List.getD_eq_getElem?_getD, List.getD_eq_getElem?_getD, List.getElem?_set]
        by_cases e : (k.f0.f0 - 1).toNat = i
        · rw [if_pos e]
          by_cases hl : (k.f0.f0 - 1).toNat < a.2.length
          · rw [if_pos hl]
            show _ ≤ mx (rd a.2 (k.f0.f0 - 1)) k.f0.f1
            have := (mx_ge (rd a.2 (k.f0.f0 - 1)) k.f0.f1).1
            unfold rd at this ⊢
            rw [e, List.getD_eq_getElem?_getD] at this
            rw [e, List.getD_eq_getElem?_getD]
            exact this
          · rw [if_neg hl, List.getElem?_eq_none (by omega)]
            exact Int.le_refl _
        · rw [if_neg e]; exact Int.le_refl _
      · show a.1 + 1 ≤ mx a.1 k.f2 + 1
        have := (mx_ge a.1 k.f2).1
        omega
    · rw [if_neg hr]
      exact ⟨fun _ => Int.le_refl _, Int.le_refl _⟩
  · unfold spS
    rw [if_neg]
    unfold relB
    rw [h]
    simp
theorem meetB_comm (x y : S57) : meetB x y = meetB y x := by
  unfold meetB
  rw [Bool.eq_iff_iff]
  simp only [Bool.and_eq_true, Bool.or_eq_true, beq_iff_eq, decide_eq_true_eq]
  constructor
  · rintro ⟨⟨h1, h2⟩, h3⟩; exact ⟨⟨h1.symm, h2.symm⟩, h3.symm⟩
  · rintro ⟨⟨h1, h2⟩, h3⟩; exact ⟨⟨h1.symm, h2.symm⟩, h3.symm⟩
theorem interK_comm (c d : S24) : interK c d = interK d c := by
  rw [Bool.eq_iff_iff]
  unfold interK
  simp only [List.any_eq_true]
  constructor
  · rintro ⟨x, hx, y, hy, h⟩; exact ⟨y, hy, x, hx, by rw [meetB_comm]; exact h⟩
  · rintro ⟨x, hx, y, hy, h⟩; exact ⟨y, hy, x, hx, by rw [meetB_comm]; exact h⟩
theorem IndexGrows.pure (l : List S29) (k : S29) (c : S24) (sf : S26) (n : Int) : ∃ q, colloquylaw08_IndexGrows.f q l k.f0.f0 k.f0.f1 k.f1.f0 k.f1.f1 k.f1.f2 k.f1.f3 k.f1.f4 k.f1.f5 k.f2 c.f0 c.f1 c.f2 c.f3 c.f4 c.f5 sf.f0 sf.f1 n = some true := by
  refine ⟨l.length + 3, ?_⟩
  unfold colloquylaw08_IndexGrows.f colloquylaw08_awake.f
  simp only [Option.bind_some, if_true]
  by_cases h60 : (l.length : Int) > 60
  · rw [if_pos h60]
    simp only [colloquylaw08_IndexGrows.j0, if_true]
  · rw [if_neg h60]
    have hl : l.length ≤ 60 := by omega
    by_cases hk2 : k.f2 > 1099511627776
    · rw [decide_eq_true hk2]
      simp only [colloquylaw08_IndexGrows.j0, if_true]
    · rw [decide_eq_false hk2]
      simp only [colloquylaw08_IndexGrows.j0]
      rw [if_neg (by simp)]
      have loop : ∀ (d i K : Nat), l.length - i ≤ d → i ≤ l.length → (∀ j (h : j < l.length), j < i → l[j].f2 ≤ 1099511627776) → d + 1 ≤ K →
          colloquylaw08_IndexGrows.l0 K l n (i : Int) k.f0.f0 k.f0.f1 k.f1.f0 k.f1.f1 k.f1.f2 k.f1.f3 k.f1.f4 k.f1.f5 k.f2 c.f0 c.f1 c.f2 c.f3 c.f4 c.f5 sf.f0 sf.f1 = some true := by
        intro d
        induction d with
        | zero =>
          intro i K hd hi hs hK
          obtain ⟨K, rfl⟩ : ∃ q, K = q + 1 := ⟨K - 1, by omega⟩
          have hk : ∀ k ∈ l, k.f2 ≤ 1099511627776 := fun k hk => by
            obtain ⟨j, hj, e⟩ := List.getElem_of_mem hk
            rw [← e]
            exact hs j hj (by omega)
          obtain ⟨t1, t2⟩ := Grows.two n l k c sf hk (by omega)
          simp only [colloquylaw08_IndexGrows.l0]
          rw [if_neg (by omega), show index_Of.f l c.f0 c.f1 c.f2 c.f3 c.f4 c.f5 sf.f0 sf.f1 n = some (ofP (bnd n) l c sf) from rfl]
          simp only [Option.bind_some, List.nil_append, List.length_nil, List.length_cons, Nat.zero_add]
          rw [if_pos (by omega), if_pos (by omega)]
          rw [show index_Of.f (l ++ [(⟨(⟨k.f0.f0, k.f0.f1⟩ : S26), (⟨k.f1.f0, k.f1.f1, k.f1.f2, k.f1.f3, k.f1.f4, k.f1.f5⟩ : S24), k.f2⟩ : S29)]) c.f0 c.f1 c.f2 c.f3 c.f4 c.f5 sf.f0 sf.f1 n = some (ofP (bnd n) (l ++ [k]) c sf) from rfl]
          simp only [Option.bind_some, attr_Within.eq, t1, if_true, inter_f k.f1 c, attr_Same.eq]
          cases hI : interK k.f1 c with
          | true => simp
          | false =>
            rw [t2 (by rw [interK_comm]; exact hI)]
            simp [sm_refl]
        | succ d ih =>
          intro i K hd hi hs hK
          by_cases hlt : i < l.length
          · obtain ⟨K, rfl⟩ : ∃ q, K = q + 1 := ⟨K - 1, by omega⟩
            have hw : wrap64 ((i : Int) + 1) = ((i + 1 : Nat) : Int) := by unfold wrap64; omega
            simp only [colloquylaw08_IndexGrows.l0]
            rw [if_pos (by omega), if_pos (by omega), rdTK_at l i hlt, hw]
            by_cases hb : l[i].f2 > 1099511627776
            · rw [if_pos hb]
            · rw [if_neg hb]
              exact ih (i + 1) K (by omega) (by omega) (fun j hj h => by
                by_cases e : j = i
                · subst e; omega
                · exact hs j hj (by omega)) (by omega)
          · exact ih i K (by omega) hi hs (by omega)
      exact loop l.length 0 _ (by omega) (by omega) (fun j _ h => by omega) (by omega)
end Go.Proofs.Ytgenfbpaooeofaa.P
