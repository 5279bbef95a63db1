/- What an index tells, by what is known of each instance: plain laws. No condition but each theorem's own. -/
import Derived.Test.YtgenfbpaooeofaaPx0
import Derived.Test.YtgenfbpaooeofaaPx4
import Derived.Test.YtgenfbpaooeofaaPx5
import Derived.Test.YtgenfbpaooeofaaIdxS
import Derived.Test.YtgenfbpaooeofaaIdxW
import Derived.Test.YtgenfbpaooeofaaAttrD
import Derived.Test.YtgenfbpaooeofaaAttrW
namespace Go.Proofs.Ytgenfbpaooeofaa.P
open Go.RowKit Go.Proofs.YtgenfbpaooeofaaW.PrintWords Go.Proofs.YtgenfbpaooeofaaW.PrintLast Go.Proofs.YtgenfbpaooeofaaW.PrintMore
set_option linter.unusedVariables false
set_option linter.unusedSimpArgs false
section
variable {α β : Type} [DecidableEq α]
theorem get_cons (p : α × β) (L : List (α × β)) (b : α) : M.get (p :: L) b = if p.1 = b then some p.2 else M.get L b := by
  unfold M.get
  rw [List.find?_cons]
  by_cases h : p.1 = b
  · simp [h]
  · simp [h]
theorem get_app (L : List (α × β)) (q : α × β) (b : α) : M.get (L ++ [q]) b = match M.get L b with | some v => some v | none => if q.1 = b then some q.2 else none := by
  induction L with
  | nil => rw [List.nil_append, get_cons]; rfl
  | cons p L ih =>
    rw [List.cons_append, get_cons, get_cons, ih]
    by_cases h : p.1 = b
    · rw [if_pos h, if_pos h]
    · rw [if_neg h, if_neg h]
theorem get_map (L : List (α × β)) (a : α) (v : β) (b : α) : M.get (L.map (fun p => if p.1 = a then (a, v) else p)) b = if b = a ∧ L.any (fun p => p.1 = a) = true then some v else M.get L b := by
  induction L with
  | nil => simp [M.get]
  | cons p L ih =>
    rw [List.map_cons, get_cons, get_cons, ih, List.any_cons]
    by_cases hp : p.1 = a
    · rw [if_pos hp]
      by_cases hb : b = a
      · subst hb; simp [hp]
      · simp [hp, hb, Ne.symm hb]
    · rw [if_neg hp, decide_eq_false hp, Bool.false_or]
      by_cases hb : b = a
      · rw [if_neg (fun e => hp (e.trans hb))]
        by_cases hc : b = a ∧ (L.any fun p => decide (p.1 = a)) = true
        · rw [if_pos hc, if_pos hc]
        · rw [if_neg hc, if_neg hc, if_neg (fun e => hp (e.trans hb))]
      · rw [if_neg (fun q : b = a ∧ _ => hb q.1), if_neg (fun q : b = a ∧ _ => hb q.1)]
theorem get_put (L : List (α × β)) (a : α) (v : β) (b : α) : M.get (M.put L a v) b = if b = a then some v else M.get L b := by
  unfold M.put
  by_cases h : (L.any fun p => p.1 = a) = true
  · rw [if_pos h, get_map]
    by_cases hb : b = a
    · rw [if_pos ⟨hb, h⟩, if_pos hb]
    · rw [if_neg (fun q => hb q.1), if_neg hb]
  · rw [if_neg h, get_app]
    by_cases hb : b = a
    · subst hb
      have : M.get L b = none := M.get_none (fun p hp e => h (List.any_eq_true.2 ⟨p, hp, by simpa using e⟩))
      rw [this]
    · rw [if_neg hb]
      cases M.get L b with
      | none => simp [Ne.symm hb]
      | some x => rfl
theorem nodup_put (L : List (α × β)) (a : α) (v : β) (h : (L.map (·.1)).Nodup) : ((M.put L a v).map (·.1)).Nodup := by
  unfold M.put
  by_cases hc : (L.any fun p => p.1 = a) = true
  · rw [if_pos hc, List.map_map]
    have : L.map ((·.1) ∘ fun p => if p.1 = a then (a, v) else p) = L.map (·.1) := List.map_congr_left (fun p _ => by
      show (if p.1 = a then (a, v) else p).1 = p.1
      split
      · rename_i e; exact e.symm
      · rfl)
    rw [this]; exact h
  · rw [if_neg hc, List.map_append, List.nodup_append]
    refine ⟨h, by simp, ?_⟩
    intro x hx y hy
    obtain ⟨p, hp, rfl⟩ := List.mem_map.1 hx
    have : y = a := by simpa using hy
    subst this
    intro e
    exact hc (List.any_eq_true.2 ⟨p, hp, by simpa using e⟩)
theorem mem_put_iff (L : List (α × β)) (a : α) (v : β) (p : α × β) : p ∈ M.put L a v ↔ p = (a, v) ∨ (p ∈ L ∧ p.1 ≠ a) := by
  unfold M.put
  by_cases hc : (L.any fun p => p.1 = a) = true
  · rw [if_pos hc, List.mem_map]
    constructor
    · rintro ⟨q, hq, e⟩
      by_cases h : q.1 = a
      · rw [if_pos h] at e; exact Or.inl e.symm
      · rw [if_neg h] at e; subst e; exact Or.inr ⟨hq, h⟩
    · rintro (rfl | ⟨h1, h2⟩)
      · obtain ⟨q, hq, e⟩ := List.any_eq_true.1 hc
        exact ⟨q, hq, if_pos (by simpa using e)⟩
      · exact ⟨p, h1, if_neg h2⟩
  · rw [if_neg hc, List.mem_append, List.mem_singleton]
    constructor
    · rintro (h | h)
      · exact Or.inr ⟨h, fun e => hc (List.any_eq_true.2 ⟨p, h, by simpa using e⟩)⟩
      · exact Or.inl h
    · rintro (h | h)
      · exact Or.inr h
      · exact Or.inl h.1
theorem get_key {L : List (α × β)} {a : α} : (∃ v, M.get L a = some v) ↔ a ∈ L.map (·.1) := by
  constructor
  · rintro ⟨v, h⟩; exact List.mem_map.2 ⟨(a, v), get_mem h, rfl⟩
  · intro h
    cases hg : M.get L a with
    | some v => exact ⟨v, rfl⟩
    | none =>
      obtain ⟨p, hp, e⟩ := List.mem_map.1 h
      exact absurd e (get_no hg p hp)
end
theorem len_same {α : Type} [DecidableEq α] : ∀ (l m : List α), l.Nodup → m.Nodup → (∀ a, a ∈ l ↔ a ∈ m) → l.length = m.length
  | [], m, _, _, h => by
    cases m with
    | nil => rfl
    | cons a m => exact absurd ((h a).2 (by simp)) (by simp)
  | a :: l, m, hl, hm, h => by
    have ha : a ∈ m := (h a).1 (by simp)
    rw [List.nodup_cons] at hl
    have e := len_same l (m.erase a) hl.2 (hm.erase a) (fun b => by
      rw [hm.mem_erase_iff]
      constructor
      · intro hb; exact ⟨fun e => hl.1 (e ▸ hb), (h b).1 (by simp [hb])⟩
      · rintro ⟨h1, h2⟩
        rcases List.mem_cons.1 ((h b).2 h2) with h3 | h3
        · exact absurd h3 h1
        · exact h3)
    have := List.length_erase_of_mem ha
    have h2 : 0 < m.length := List.length_pos_of_mem ha
    rw [List.length_cons]
    omega
/-- what is known, and what is behind each key, say the same -/
structure SInv (m : Int) (s : Ixs) : Prop where
  nd : (s.1.map (·.1)).Nodup
  key : ∀ i k, M.get s.1 i = some k → k.f0 = i ∧ mayI m i = true
  row : ∀ K p, p ∈ s.2 K ↔ ∃ k, M.get s.1 p.1 = some k ∧ p.2 = k.f2 ∧ K ∈ kOf k.f1
theorem SInv.zero (m : Int) : SInv m ix0 := ⟨by simp [ix0], fun i k h => by simp [ix0, M.get] at h, fun K p => by simp [ix0, M.get]⟩
theorem mem_dels (i : S26) : ∀ (l : List S57) (G : S57 → List (S26 × Int)) (K : S57) (p : S26 × Int), p ∈ l.foldl (delG i) G K ↔ p ∈ G K ∧ ¬ (K ∈ l ∧ p.1 = i)
  | [], G, K, p => by simp
  | K0 :: l, G, K, p => by
    rw [List.foldl_cons, mem_dels i l]
    by_cases h : K = K0
    · subst h
      rw [delG_at]
      unfold M.del
      rw [List.mem_filter]
      by_cases e : p.1 = i
      · simp [e]
      · simp [e]
    · rw [delG_ne _ _ _ _ h]
      simp [h]
theorem mem_puts (i : S26) (s : Int) : ∀ (l : List S57) (G : S57 → List (S26 × Int)) (K : S57) (p : S26 × Int), p ∈ l.foldl (putG i s) G K ↔ (K ∈ l ∧ p = (i, s)) ∨ (p ∈ G K ∧ ¬ (K ∈ l ∧ p.1 = i))
  | [], G, K, p => by simp
  | K0 :: l, G, K, p => by
    rw [List.foldl_cons, mem_puts i s l]
    by_cases h : K = K0
    · subst h
      rw [putG_at, mem_put_iff]
      by_cases e : p = (i, s)
      · subst e; by_cases hl : K ∈ l <;> simp [hl]
      · by_cases e1 : p.1 = i
        · simp [e, e1]
        · simp [e, e1]
    · rw [putG_ne _ _ _ _ _ h]
      simp [h]
theorem get_putS (m : Int) (s : Ixs) (k : S29) (i : S26) : M.get (putS m s k).1 i = if mayI m k.f0 = true ∧ i = k.f0 then some k else M.get s.1 i := by
  unfold putS putP
  by_cases h : mayI m k.f0 = true
  · rw [if_pos h]
    show M.get (M.put s.1 k.f0 k) i = _
    rw [get_put]
    by_cases e : i = k.f0
    · rw [if_pos e, if_pos ⟨h, e⟩]
    · rw [if_neg e, if_neg (fun q => e q.2)]
  · rw [if_neg h, if_neg (fun q => h q.1)]
theorem SInv.put {m : Int} {s : Ixs} (h : SInv m s) (k : S29) : SInv m (putS m s k) := by
  refine ⟨?_, fun i q hq => ?_, fun K p => ?_⟩
  · unfold putS putP
    split
    · exact nodup_put _ _ _ h.nd
    · exact h.nd
  · rw [get_putS] at hq
    split at hq
    · rename_i e
      have := Option.some.inj hq
      subst this
      exact ⟨e.2.symm, e.2 ▸ e.1⟩
    · exact h.key i q hq
  · rw [get_putS]
    by_cases hm : mayI m k.f0 = true
    · have hG : (putS m s k).2 = (kOf k.f1).foldl (putG k.f0 k.f2) ((kOf (oldK s.1 k.f0).f1).foldl (delG k.f0) s.2) := by
        unfold putS putP; rw [if_pos hm]
      rw [hG, mem_puts, mem_dels]
      by_cases e : p.1 = k.f0
      · rw [if_pos ⟨hm, e⟩]
        constructor
        · rintro (⟨h1, h2⟩ | ⟨⟨h1, h2⟩, h3⟩)
          · exact ⟨k, rfl, by rw [h2], h1⟩
          · obtain ⟨k', g1, g2, g3⟩ := (h.row K p).1 h1
            rw [e] at g1
            refine absurd ⟨?_, e⟩ h2
            unfold oldK
            rw [g1]
            exact g3
        · rintro ⟨k', g1, g2, g3⟩
          have := Option.some.inj g1
          subst this
          exact Or.inl ⟨g3, Prod.ext e g2⟩
      · rw [if_neg (fun q => e q.2)]
        constructor
        · rintro (⟨h1, h2⟩ | ⟨⟨h1, h2⟩, h3⟩)
          · exact absurd (by rw [h2]) e
          · exact (h.row K p).1 h1
        · intro g
          exact Or.inr ⟨⟨(h.row K p).2 g, fun q => e q.2⟩, fun q => e q.2⟩
    · rw [if_neg (fun q => hm q.1)]
      have hG : putS m s k = s := by unfold putS putP; rw [if_neg hm]
      rw [hG]
      exact h.row K p
theorem SInv.puts {m : Int} : ∀ (l : List S29) {s : Ixs}, SInv m s → SInv m (l.foldl (putS m) s)
  | [], _, h => h
  | k :: l, _, h => by rw [List.foldl_cons]; exact SInv.puts l (h.put k)
theorem rows_mem (c : S24) (G : S57 → List (S26 × Int)) (q : S26 × Int) : q ∈ (kOf c).flatMap (rowsOf G) ↔ ∃ x, x ∈ kOf c ∧ ∃ y, meetB x y = true ∧ q ∈ G y := by
  have hrow : ∀ (x : S57) (ch : Bool), q ∈ rowOf G x ch ↔ meetB x (withCh x ch) = true ∧ q ∈ G (withCh x ch) := by
    intro x ch
    unfold rowOf
    by_cases hm : meetB x (withCh x ch) = true
    · rw [if_pos hm]; simp [hm]
    · rw [if_neg hm]; simp [hm]
  rw [List.mem_flatMap]
  constructor
  · rintro ⟨x, hx, hq⟩
    unfold rowsOf at hq
    rcases List.mem_append.1 hq with hq | hq
    · obtain ⟨h1, h2⟩ := (hrow x true).1 hq
      exact ⟨x, hx, _, h1, h2⟩
    · obtain ⟨h1, h2⟩ := (hrow x false).1 hq
      exact ⟨x, hx, _, h1, h2⟩
  · rintro ⟨x, hx, y, h1, h2⟩
    refine ⟨x, hx, ?_⟩
    have hxy : withCh x y.f2 = y := by
      have h := h1
      unfold meetB at h
      simp only [Bool.and_eq_true, beq_iff_eq, decide_eq_true_eq] at h
      obtain ⟨⟨h2, h3⟩, h4⟩ := h
      cases x; cases y
      simp only at h2 h3
      subst h2 h3
      rfl
    have := (hrow x y.f2).2 ⟨by rw [hxy]; exact h1, by rw [hxy]; exact h2⟩
    unfold rowsOf
    cases hf : y.f2 with
    | true => rw [hf] at this; exact List.mem_append_left _ this
    | false => rw [hf] at this; exact List.mem_append_right _ this
/-- whom a command waits for -/
theorem SInv.rows {m : Int} {s : Ixs} (h : SInv m s) (c : S24) (q : S26 × Int) : q ∈ (kOf c).flatMap (rowsOf s.2) ↔ ∃ k, M.get s.1 q.1 = some k ∧ q.2 = k.f2 ∧ interK c k.f1 = true := by
  rw [rows_mem]
  constructor
  · rintro ⟨x, hx, y, h1, h2⟩
    obtain ⟨k, g1, g2, g3⟩ := (h.row y q).1 h2
    exact ⟨k, g1, g2, List.any_eq_true.2 ⟨x, hx, List.any_eq_true.2 ⟨y, g3, h1⟩⟩⟩
  · rintro ⟨k, g1, g2, g3⟩
    obtain ⟨x, hx, g3⟩ := List.any_eq_true.1 g3
    obtain ⟨y, hy, g3⟩ := List.any_eq_true.1 g3
    exact ⟨x, hx, y, g3, (h.row y q).2 ⟨k, g1, g2, hy⟩⟩
theorem mx_le (a b x : Int) : mx a b ≤ x ↔ a ≤ x ∧ b ≤ x := by unfold mx; split <;> omega
theorem fold_seq (sf : S26) (x : Int) : ∀ (L : List (S26 × Int)) (a : Int × List Int), (L.foldl (stepA sf) a).1 ≤ x ↔ a.1 ≤ x ∧ ∀ q ∈ L, q.1 ≠ sf → q.2 ≤ x
  | [], a => by simp
  | p :: L, a => by
    rw [List.foldl_cons, fold_seq sf x L]
    unfold stepA
    by_cases e : p.1 = sf
    · rw [if_pos e]; simp [e]
    · rw [if_neg e]
      show mx a.1 p.2 ≤ x ∧ _ ↔ _
      rw [mx_le]
      simp [e, and_assoc]
theorem fold_dep (sf : S26) (j : Nat) (x : Int) : ∀ (L : List (S26 × Int)) (a : Int × List Int), j < a.2.length → ((L.foldl (stepA sf) a).2.getD j 0 ≤ x ↔ a.2.getD j 0 ≤ x ∧ ∀ q ∈ L, q.1 ≠ sf → (q.1.f0 - 1).toNat = j → q.1.f1 ≤ x)
  | [], a, _ => by simp
  | p :: L, a, hj => by
    have hl : (stepA sf a p).2.length = a.2.length := step_len sf [p] a
    rw [List.foldl_cons, fold_dep sf j x L _ (by rw [hl]; exact hj)]
    unfold stepA
    by_cases e : p.1 = sf
    · rw [if_pos e]; simp [e]
    · rw [if_neg e]
      show (a.2.set _ _).getD j 0 ≤ x ∧ _ ↔ _
      by_cases ej : (p.1.f0 - 1).toNat = j
      · have : (a.2.set (p.1.f0 - 1).toNat (mx (rd a.2 (p.1.f0 - 1)) p.1.f1)).getD j 0 = mx (a.2.getD j 0) p.1.f1 := by
          unfold rd
          rw [ej, List.getD_eq_getElem?_getD, List.getElem?_set_self hj]
          rfl
        rw [this, mx_le, List.forall_mem_cons, and_assoc]
        exact and_congr_right fun _ => ⟨fun h => ⟨fun _ _ => h.1, h.2⟩, fun h => ⟨h.1 e ej, h.2⟩⟩
      · have : (a.2.set (p.1.f0 - 1).toNat (mx (rd a.2 (p.1.f0 - 1)) p.1.f1)).getD j 0 = a.2.getD j 0 := by
          rw [List.getD_eq_getElem?_getD, List.getElem?_set_ne ej, List.getD_eq_getElem?_getD]
        rw [this, List.forall_mem_cons]
        exact ⟨fun h => ⟨h.1, fun _ h => absurd h ej, h.2⟩, fun h => ⟨h.1, h.2.2⟩⟩
theorem le_anti {a b : Int} (h : ∀ x, a ≤ x ↔ b ≤ x) : a = b := Int.le_antisymm ((h b).2 (Int.le_refl _)) ((h a).1 (Int.le_refl _))
/-- what is told does not ask for order, nor for how often, nor for its own instance -/
theorem fold_same (sf : S26) (a : Int × List Int) {L M : List (S26 × Int)} (h : ∀ q : S26 × Int, q.1 ≠ sf → (q ∈ L ↔ q ∈ M)) : L.foldl (stepA sf) a = M.foldl (stepA sf) a := by
  refine Prod.ext (le_anti fun x => ?_) ?_
  · rw [fold_seq, fold_seq]
    exact and_congr_right fun _ => ⟨fun g q hq hn => g q ((h q hn).2 hq) hn, fun g q hq hn => g q ((h q hn).1 hq) hn⟩
  · apply List.ext_getElem
    · rw [step_len, step_len]
    · intro j h1 h2
      have hj : j < a.2.length := by rw [step_len] at h1; exact h1
      have e : ∀ (l : List Int) (h : j < l.length), l[j] = l.getD j 0 := fun l h => by rw [List.getD_eq_getElem?_getD, List.getElem?_eq_getElem h]; rfl
      rw [e _ h1, e _ h2]
      refine le_anti fun x => ?_
      rw [fold_dep sf j x L a hj, fold_dep sf j x M a hj]
      exact and_congr_right fun _ => ⟨fun g q hq hn => g q ((h q hn).2 hq) hn, fun g q hq hn => g q ((h q hn).1 hq) hn⟩
theorem SInv.attr {m : Int} {s t : Ixs} (h : SInv m s) (k : SInv m t) (c : S24) (sf : S26) (e : ∀ i, i ≠ sf → M.get s.1 i = M.get t.1 i) : attrP m s.2 c sf = attrP m t.2 c sf := by
  unfold attrP foldA
  rw [fold_same sf _ (L := (kOf c).flatMap (rowsOf s.2)) (M := (kOf c).flatMap (rowsOf t.2)) (fun q hq => by rw [h.rows, k.rows, e _ hq])]
theorem SInv.len {m : Int} {s t : Ixs} (h : SInv m s) (k : SInv m t) (e : ∀ i, M.get s.1 i = M.get t.1 i) : s.1.length = t.1.length := by
  have := len_same _ _ h.nd k.nd (fun a => by rw [← get_key, ← get_key, e])
  simpa using this
theorem SInv.no {m : Int} {s : Ixs} (h : SInv m s) {i : S26} (hi : mayI m i ≠ true) : M.get s.1 i = none := by
  cases hg : M.get s.1 i with
  | none => rfl
  | some k => exact absurd (h.key i k hg).2 hi
/-- the plain side of the law IndexPlace -/
theorem puts_off (m : Int) (i0 : S26) : ∀ (l : List S29) (s t : Ixs), (∀ i, i ≠ i0 → M.get s.1 i = M.get t.1 i) → ∀ i, i ≠ i0 → M.get (l.foldl (putS m) s).1 i = M.get (l.foldl (putS m) t).1 i
  | [], s, t, h => h
  | k :: l, s, t, h => by
    rw [List.foldl_cons, List.foldl_cons]
    refine puts_off m i0 l _ _ (fun i hi => ?_)
    rw [get_putS, get_putS, h i hi]
end Go.Proofs.Ytgenfbpaooeofaa.P
