/- Sorting by insertion and by merging, by a key: plain laws on lists. -/
namespace Go.Proofs.Ytlobedghenflfaa.S
set_option linter.unusedVariables false
set_option linter.unusedSimpArgs false
section
variable (key : Int → Int)
def insR (z : Int) : List Int → List Int
  | [] => [z]
  | y :: r => if key z < key y then y :: insR z r else z :: y :: r
/-- ahead of all at the end that are greater -/
def ins (z : Int) (l : List Int) : List Int := (insR key z l.reverse).reverse
def sortS (l : List Int) : List Int := l.foldl (fun out z => ins key z out) []
def Sd (l : List Int) : Prop := l.Pairwise (fun a b => key a ≤ key b)
def mg (X Y : List Int) : List Int := List.merge X Y (fun x y => decide (key x ≤ key y))
theorem ins_nil (z : Int) : ins key z [] = [z] := rfl
theorem ins_snoc (z : Int) (U : List Int) (y : Int) : ins key z (U ++ [y]) = if key z < key y then ins key z U ++ [y] else U ++ [y, z] := by
  unfold ins
  rw [List.reverse_append]
  show (insR key z (y :: U.reverse)).reverse = _
  rw [insR]
  split
  · rw [List.reverse_cons]
  · simp
theorem ins_app (z : Int) (U : List Int) : ∀ (n : Nat) (V : List Int), V.length = n → (∀ v ∈ V, key z < key v) → ins key z (U ++ V) = ins key z U ++ V
  | 0, V, h, _ => by
    have : V = [] := List.length_eq_zero_iff.1 h
    subst this; simp
  | n + 1, V, h, hv => by
    obtain ⟨V', y, rfl⟩ : ∃ V' y, V = V' ++ [y] := ⟨V.dropLast, V.getLast (by intro e; rw [e] at h; cases h), (List.dropLast_concat_getLast _).symm⟩
    rw [← List.append_assoc, ins_snoc, if_pos (hv y (by simp)), ins_app z U n V' (by simpa using h) (fun v h => hv v (by simp [h])), List.append_assoc]
/-- where one goes -/
theorem ins_at (z : Int) (A B : List Int) (hA : ∀ x ∈ A, key x ≤ key z) (hB : ∀ y ∈ B, key z < key y) : ins key z (A ++ B) = A ++ z :: B := by
  rw [ins_app key z A B.length B rfl hB]
  have : ins key z A = A ++ [z] := by
    rcases List.eq_nil_or_concat A with rfl | ⟨A', y, rfl⟩
    · rfl
    · rw [List.concat_eq_append] at hA ⊢
      rw [ins_snoc, if_neg (by have := hA y (by simp); omega)]
      simp
  rw [this, List.append_assoc]; rfl
theorem Sd.split (z : Int) : ∀ (l : List Int), Sd key l → ∃ A B, l = A ++ B ∧ (∀ x ∈ A, key x ≤ key z) ∧ (∀ y ∈ B, key z < key y)
  | [], _ => ⟨[], [], rfl, by simp, by simp⟩
  | x :: l, h => by
    unfold Sd at h
    rw [List.pairwise_cons] at h
    by_cases hx : key x ≤ key z
    · obtain ⟨A, B, e, hA, hB⟩ := Sd.split z l h.2
      refine ⟨x :: A, B, by rw [e]; rfl, fun y hy => ?_, hB⟩
      rcases List.mem_cons.1 hy with rfl | hy
      · exact hx
      · exact hA y hy
    · refine ⟨[], x :: l, rfl, by simp, fun y hy => ?_⟩
      rcases List.mem_cons.1 hy with rfl | hy
      · omega
      · have := h.1 y hy; omega
theorem ins_perm (z : Int) : ∀ (n : Nat) (l : List Int), l.length = n → (ins key z l).Perm (z :: l)
  | 0, l, h => by
    have : l = [] := List.length_eq_zero_iff.1 h
    subst this; exact List.Perm.refl _
  | n + 1, l, h => by
    obtain ⟨V', y, rfl⟩ : ∃ V' y, l = V' ++ [y] := ⟨l.dropLast, l.getLast (by intro e; rw [e] at h; cases h), (List.dropLast_concat_getLast _).symm⟩
    rw [ins_snoc]
    split
    · exact ((ins_perm z n V' (by simpa using h)).append_right [y])
    · rw [show V' ++ [y, z] = (V' ++ [y]) ++ [z] by simp]
      exact List.perm_append_comm
theorem ins_sorted (z : Int) (l : List Int) (h : Sd key l) : Sd key (ins key z l) := by
  obtain ⟨A, B, rfl, hA, hB⟩ := Sd.split key z l h
  rw [ins_at key z A B hA hB]
  unfold Sd at h ⊢
  rw [List.pairwise_append] at h ⊢
  refine ⟨h.1, List.pairwise_cons.2 ⟨fun y hy => by have := hB y hy; omega, h.2.1⟩, fun a ha b hb => ?_⟩
  rcases List.mem_cons.1 hb with rfl | hb
  · exact hA a ha
  · exact h.2.2 a ha b hb
theorem sortS_snoc (l : List Int) (z : Int) : sortS key (l ++ [z]) = ins key z (sortS key l) := by
  unfold sortS; rw [List.foldl_append]; rfl
theorem sortS_perm : ∀ (n : Nat) (l : List Int), l.length = n → (sortS key l).Perm l
  | 0, l, h => by
    have : l = [] := List.length_eq_zero_iff.1 h
    subst this; exact List.Perm.refl _
  | n + 1, l, h => by
    obtain ⟨V', y, rfl⟩ : ∃ V' y, l = V' ++ [y] := ⟨l.dropLast, l.getLast (by intro e; rw [e] at h; cases h), (List.dropLast_concat_getLast _).symm⟩
    rw [sortS_snoc]
    refine (ins_perm key y _ _ rfl).trans ?_
    refine ((sortS_perm n V' (by simpa using h)).cons y).trans ?_
    exact (List.perm_append_comm (l₁ := [y]) (l₂ := V'))
theorem sortS_len (l : List Int) : (sortS key l).length = l.length := (sortS_perm key _ l rfl).length_eq
theorem sortS_mem (l : List Int) (x : Int) : x ∈ sortS key l ↔ x ∈ l := (sortS_perm key _ l rfl).mem_iff
theorem sortS_sorted : ∀ (n : Nat) (l : List Int), l.length = n → Sd key (sortS key l)
  | 0, l, h => by
    have : l = [] := List.length_eq_zero_iff.1 h
    subst this; exact List.Pairwise.nil
  | n + 1, l, h => by
    obtain ⟨V', y, rfl⟩ : ∃ V' y, l = V' ++ [y] := ⟨l.dropLast, l.getLast (by intro e; rw [e] at h; cases h), (List.dropLast_concat_getLast _).symm⟩
    rw [sortS_snoc]
    exact ins_sorted key y _ (sortS_sorted n V' (by simpa using h))
/-- what is in order stays -/
theorem sortS_id : ∀ (n : Nat) (l : List Int), l.length = n → Sd key l → sortS key l = l
  | 0, l, h, _ => by
    have : l = [] := List.length_eq_zero_iff.1 h
    subst this; rfl
  | n + 1, l, h, hs => by
    obtain ⟨V', y, rfl⟩ : ∃ V' y, l = V' ++ [y] := ⟨l.dropLast, l.getLast (by intro e; rw [e] at h; cases h), (List.dropLast_concat_getLast _).symm⟩
    unfold Sd at hs
    rw [List.pairwise_append] at hs
    rw [sortS_snoc, sortS_id n V' (by simpa using h) hs.1]
    have := ins_at key y V' [] (fun x hx => hs.2.2 x hx y (by simp)) (by simp)
    rw [List.append_nil] at this
    exact this
theorem mg_nil_l (Y : List Int) : mg key [] Y = Y := by unfold mg; simp
theorem mg_nil_r (X : List Int) : mg key X [] = X := by unfold mg; cases X <;> simp
theorem mg_cons (x y : Int) (X Y : List Int) : mg key (x :: X) (y :: Y) = if key x ≤ key y then x :: mg key X (y :: Y) else y :: mg key (x :: X) Y := by
  unfold mg
  rw [List.merge]
  by_cases h : key x ≤ key y
  · rw [if_pos (by simp [h]), if_pos h]
  · rw [if_neg (by simp [h]), if_neg h]
theorem mg_split : ∀ (n : Nat) (X1 X2 Y1 Y2 : List Int), X1.length + Y1.length = n → (∀ x ∈ X1, ∀ y ∈ Y2, key x ≤ key y) → (∀ x ∈ X2, ∀ y ∈ Y1, key y < key x) → mg key (X1 ++ X2) (Y1 ++ Y2) = mg key X1 Y1 ++ mg key X2 Y2 := by
  intro n
  induction n with
  | zero =>
    intro X1 X2 Y1 Y2 h _ _
    have e1 : X1 = [] := List.length_eq_zero_iff.1 (by omega)
    have e2 : Y1 = [] := List.length_eq_zero_iff.1 (by omega)
    subst e1; subst e2
    simp [mg_nil_l]
  | succ n ih =>
    intro X1 X2 Y1 Y2 h h1 h2
    cases X1 with
    | nil =>
      cases Y1 with
      | nil => simp at h
      | cons y Y1 =>
        have e := ih [] X2 Y1 Y2 (by simp at h ⊢; omega) (by simp) (fun a ha b hb => h2 a ha b (List.mem_cons_of_mem _ hb))
        rw [List.nil_append, mg_nil_l] at e ⊢
        cases X2 with
        | nil => rw [mg_nil_l, mg_nil_l]
        | cons x X2 =>
          have : key y < key x := h2 x (by simp) y (by simp)
          rw [List.cons_append, mg_cons, if_neg (by omega), e]; rfl
    | cons x X1 =>
      cases Y1 with
      | nil =>
        have e := ih X1 X2 [] Y2 (by simp at h ⊢; omega) (fun a ha b hb => h1 a (List.mem_cons_of_mem _ ha) b hb) (by simp)
        rw [List.nil_append, mg_nil_r] at e ⊢
        cases Y2 with
        | nil => rw [mg_nil_r, mg_nil_r]
        | cons y Y2 =>
          have : key x ≤ key y := h1 x (by simp) y (by simp)
          rw [List.cons_append, mg_cons, if_pos this, e]; rfl
      | cons y Y1 =>
        rw [List.cons_append, List.cons_append, mg_cons, mg_cons]
        by_cases hxy : key x ≤ key y
        · rw [if_pos hxy, if_pos hxy]
          have e := ih X1 X2 (y :: Y1) Y2 (by simp at h ⊢; omega) (fun a ha b hb => h1 a (List.mem_cons_of_mem _ ha) b hb) h2
          rw [List.cons_append] at e
          rw [e]; rfl
        · rw [if_neg hxy, if_neg hxy]
          have e := ih (x :: X1) X2 Y1 Y2 (by simp at h ⊢; omega) h1 (fun a ha b hb => h2 a ha b (List.mem_cons_of_mem _ hb))
          rw [List.cons_append] at e
          rw [e]; rfl
theorem mg_mem : ∀ (n : Nat) (X Y : List Int), X.length + Y.length = n → ∀ z, z ∈ mg key X Y ↔ z ∈ X ∨ z ∈ Y := by
  intro n
  induction n with
  | zero =>
    intro X Y h z
    have e1 : X = [] := List.length_eq_zero_iff.1 (by omega)
    have e2 : Y = [] := List.length_eq_zero_iff.1 (by omega)
    subst e1; subst e2
    simp [mg_nil_l]
  | succ n ih =>
    intro X Y h z
    cases X with
    | nil => simp [mg_nil_l]
    | cons x X =>
      cases Y with
      | nil => simp [mg_nil_r]
      | cons y Y =>
        rw [mg_cons]
        split
        · rw [List.mem_cons, ih X (y :: Y) (by simp at h ⊢; omega), List.mem_cons, List.mem_cons, or_assoc]
        · rw [List.mem_cons, ih (x :: X) Y (by simp at h ⊢; omega), List.mem_cons, List.mem_cons]
          constructor
          · rintro (h | h | h)
            · exact Or.inr (Or.inl h)
            · exact Or.inl h
            · exact Or.inr (Or.inr h)
          · rintro (h | h | h)
            · exact Or.inr (Or.inl h)
            · exact Or.inl h
            · exact Or.inr (Or.inr h)
theorem mg_len : ∀ (n : Nat) (X Y : List Int), X.length + Y.length = n → (mg key X Y).length = n := by
  intro n
  induction n with
  | zero =>
    intro X Y h
    have e1 : X = [] := List.length_eq_zero_iff.1 (by omega)
    have e2 : Y = [] := List.length_eq_zero_iff.1 (by omega)
    subst e1; subst e2
    simp [mg_nil_l]
  | succ n ih =>
    intro X Y h
    cases X with
    | nil => rw [mg_nil_l]; simpa using h
    | cons x X =>
      cases Y with
      | nil => rw [mg_nil_r]; simpa using h
      | cons y Y =>
        rw [mg_cons]
        split
        · rw [List.length_cons, ih X (y :: Y) (by simp at h ⊢; omega)]
        · rw [List.length_cons, ih (x :: X) Y (by simp at h ⊢; omega)]
theorem ins_mg (z : Int) (A B : List Int) (hA : Sd key A) (hB : Sd key B) : mg key A (ins key z B) = ins key z (mg key A B) := by
  obtain ⟨A1, A2, rfl, a1, a2⟩ := Sd.split key z A hA
  obtain ⟨B1, B2, rfl, b1, b2⟩ := Sd.split key z B hB
  rw [ins_at key z B1 B2 b1 b2, mg_split key _ A1 A2 B1 B2 rfl (fun x hx y hy => by have := a1 x hx; have := b2 y hy; omega) (fun x hx y hy => by have := a2 x hx; have := b1 y hy; omega)]
  rw [ins_at key z (mg key A1 B1) (mg key A2 B2) (fun x hx => by
    rcases (mg_mem key _ A1 B1 rfl x).1 hx with h | h
    · exact a1 x h
    · exact b1 x h) (fun y hy => by
    rcases (mg_mem key _ A2 B2 rfl y).1 hy with h | h
    · exact a2 y h
    · exact b2 y h)]
  rw [show B1 ++ z :: B2 = (B1 ++ [z]) ++ B2 by simp, mg_split key _ A1 A2 (B1 ++ [z]) B2 rfl (fun x hx y hy => by have := a1 x hx; have := b2 y hy; omega) (fun x hx y hy => by
    rcases List.mem_append.1 hy with h | h
    · have := a2 x hx; have := b1 y h; omega
    · rw [List.mem_singleton.1 h]; exact a2 x hx)]
  have e := mg_split key _ A1 [] B1 [z] rfl (fun x hx y hy => by rw [List.mem_singleton.1 hy]; exact a1 x hx) (by simp)
  rw [List.append_nil, mg_nil_l] at e
  rw [e, List.append_assoc]; rfl
/-- two parts, each in order, put together -/
theorem mg_sortS (X : List Int) : ∀ (n : Nat) (Y : List Int), Y.length = n → mg key (sortS key X) (sortS key Y) = sortS key (X ++ Y)
  | 0, Y, h => by
    have : Y = [] := List.length_eq_zero_iff.1 h
    subst this
    rw [List.append_nil]
    exact mg_nil_r key _
  | n + 1, Y, h => by
    obtain ⟨V', y, rfl⟩ : ∃ V' y, Y = V' ++ [y] := ⟨Y.dropLast, Y.getLast (by intro e; rw [e] at h; cases h), (List.dropLast_concat_getLast _).symm⟩
    rw [sortS_snoc, ← List.append_assoc, sortS_snoc, ins_mg key y _ _ (sortS_sorted key _ X rfl) (sortS_sorted key _ V' rfl), mg_sortS X n V' (by simpa using h)]
theorem mg_sd (X Y : List Int) (hX : Sd key X) (hY : Sd key Y) : mg key X Y = sortS key (X ++ Y) := by
  rw [← mg_sortS key X _ Y rfl, sortS_id key _ X rfl hX, sortS_id key _ Y rfl hY]
end
end Go.Proofs.Ytlobedghenflfaa.S
