/- Plain facts for the laws of layer 10 (regain): which reports count, what is chosen; no condition but each one's own. -/
import Derived.Test.YtomgiaakhpemaaaPx0
import Derived.Test.YtomgiaakhpemaaaPx3
import Derived.Test.YtomgiaakhpemaaaPx6
import Derived.Test.YtomgiaakhpemaaaPx7
import Derived.Test.YtomgiaakhpemaaaPx8
namespace Go.Proofs.Ytomgiaakhpemaaa.P
open Go.RowKit Go.Proofs.YtomgiaakhpemaaaW.PrintWords Go.Proofs.YtomgiaakhpemaaaW.PrintLast Go.Proofs.YtomgiaakhpemaaaW.PrintMore
set_option linter.unusedVariables false
set_option linter.unusedSimpArgs false
def fewB (l : List S35) : Bool := decide ((l.length : Int) ≤ 40) && l.all fun x => decide ((x.f1.f4.f1.length : Int) ≤ 50)
theorem drop_cons (l : List S35) (i : Nat) (h : i < l.length) : l.drop i = rd_T35 l (i : Int) :: l.drop (i + 1) := by rw [rdTR_at l i h]; exact List.drop_eq_getElem_cons h
theorem few_l0 (l : List S35) (hl : l.length ≤ 40) : ∀ (d i : Nat), l.length - i ≤ d → i ≤ l.length → Ev (fun k => colloquylaw10_few.l0 k l (i : Int)) ((l.drop i).all fun x => decide ((x.f1.f4.f1.length : Int) ≤ 50)) := by
  intro d
  induction d with
  | zero =>
    intro i hd hi
    have : i = l.length := by omega
    subst this
    refine Ev.step (f := fun _ => some true) (fun k => ?_) ?_
    · simp only [colloquylaw10_few.l0]; rw [if_neg (by omega)]
    · rw [List.drop_length]; exact Ev.now _
  | succ d ih =>
    intro i hd hi
    by_cases hlt : i < l.length
    · rw [drop_cons l i hlt, List.all_cons]
      by_cases h : ((rd_T35 l (i : Int)).f1.f4.f1.length : Int) ≤ 50
      · refine Ev.step (f := fun k => colloquylaw10_few.l0 k l ((i + 1 : Nat) : Int)) (fun k => ?_) ?_
        · simp only [colloquylaw10_few.l0]; rw [if_pos (by omega), if_pos (by omega), if_neg (by omega), show wrap64 ((i : Int) + 1) = ((i + 1 : Nat) : Int) by unfold wrap64; omega]
        · rw [decide_eq_true h, Bool.true_and]; exact ih (i + 1) (by omega) (by omega)
      · refine Ev.step (f := fun _ => some false) (fun k => ?_) ?_
        · simp only [colloquylaw10_few.l0]; rw [if_pos (by omega), if_pos (by omega), if_pos (by omega)]
        · rw [decide_eq_false h, Bool.false_and]; exact Ev.now _
    · have : i = l.length := by omega
      subst this
      refine Ev.step (f := fun _ => some true) (fun k => ?_) ?_
      · simp only [colloquylaw10_few.l0]; rw [if_neg (by omega)]
      · rw [List.drop_length]; exact Ev.now _
theorem few_ev (l : List S35) : Ev (fun k => colloquylaw10_few.f k l) (fewB l) := by
  unfold colloquylaw10_few.f fewB
  by_cases h : (l.length : Int) > 40
  · simp only [if_pos h, decide_eq_false (show ¬ (l.length : Int) ≤ 40 by omega), Bool.false_and]; exact Ev.now _
  · simp only [if_neg h, decide_eq_true (show (l.length : Int) ≤ 40 by omega), Bool.true_and]
    have := few_l0 l (by omega) l.length 0 (by omega) (by omega)
    simpa using this
theorem awake_true : colloquylaw10_awake.f = some true := by kernel_rfl
theorem fewB_iff (l : List S35) : fewB l = true ↔ l.length ≤ 40 ∧ ∀ x ∈ l, x.f1.f4.f1.length ≤ 50 := by
  unfold fewB
  rw [Bool.and_eq_true, decide_eq_true_iff, List.all_eq_true]
  constructor
  · rintro ⟨h1, h2⟩; exact ⟨by omega, fun x hx => by have := of_decide_eq_true (h2 x hx); omega⟩
  · rintro ⟨h1, h2⟩; exact ⟨by omega, fun x hx => decide_eq_true (by have := h2 x hx; omega)⟩
theorem Decide_some (n o : Int) (l : List S35) (h : ∀ x ∈ l, x.f1.f4.f1.length ≤ 17592186044416) : regain_Decide.f n o l = some (chooseP n o (countP n l)) := by
  unfold regain_Decide.f
  rw [if_pos (List.all_eq_true.2 fun x hx => decide_eq_true (h x hx))]
/-- how many are asked -/
def manyP (n : Int) : Nat := (mn (mx n 1) 7).toNat
theorem manyP_bd (n : Int) : 1 ≤ manyP n ∧ manyP n ≤ 7 := by unfold manyP mn mx; omega
theorem manyP_self (n : Int) (h1 : 1 ≤ n) (h7 : n ≤ 7) : (manyP n : Int) = n := by unfold manyP mn mx; omega
theorem find_at (l : List S35) (p : S35 → Bool) : (l.findIdx? p).map (fun i : Nat => rd_T35 l (i : Int)) = l.find? p := by
  cases h : l.findIdx? p with
  | none =>
    rw [List.findIdx?_eq_none_iff] at h
    symm
    rw [Option.map_none, List.find?_eq_none]
    exact fun x hx => by rw [h x hx]; decide
  | some i =>
    rw [List.findIdx?_eq_some_iff_getElem] at h
    obtain ⟨hi, hp, hn⟩ := h
    symm
    rw [Option.map_some, rdTR_at l i hi, List.find?_eq_some_iff_getElem]
    exact ⟨hp, i, hi, rfl, fun j hj => by have := hn j hj; cases hq : p l[j] with | true => exact absurd hq this | false => rfl⟩
/-- a replica's first report -/
def firstR (l : List S35) (k : Nat) : Option S35 := l.find? fun x => x.f0 == (k : Int) + 1
theorem count_eq (n : Int) (l : List S35) : countP n l = (List.range (manyP n)).filterMap (firstR l) := by
  unfold countP uptoR manyP
  rw [List.map_filterMap]
  congr 1
  funext k
  exact find_at l _
theorem firstR_cons (x : S35) (l : List S35) (k : Nat) : firstR (x :: l) k = if x.f0 = (k : Int) + 1 then some x else firstR l k := by
  unfold firstR
  rw [List.find?_cons]
  by_cases h : x.f0 = (k : Int) + 1
  · rw [if_pos h, show (x.f0 == (k : Int) + 1) = true from beq_iff_eq.2 h]
  · rw [if_neg h, show (x.f0 == (k : Int) + 1) = false from beq_eq_false_iff_ne.2 h]
theorem firstR_mem {l : List S35} {k : Nat} {x : S35} (h : firstR l k = some x) : x ∈ l ∧ x.f0 = (k : Int) + 1 := ⟨List.mem_of_find?_eq_some h, by have := List.find?_some h; simpa using this⟩
theorem count_mem {n : Int} {l : List S35} {x : S35} (h : x ∈ countP n l) : x ∈ l ∧ 1 ≤ x.f0 ∧ x.f0 ≤ manyP n := by
  rw [count_eq] at h
  obtain ⟨k, hk, hx⟩ := List.mem_filterMap.1 h
  obtain ⟨h1, h2⟩ := firstR_mem hx
  have := List.mem_range.1 hk
  exact ⟨h1, by omega, by omega⟩
/-- how many of those that count are so: no more than of all -/
theorem count_le (p : S35 → Bool) : ∀ (l : List S35) (m : Nat), (((List.range m).filterMap (firstR l)).filter p).length ≤ (l.filter p).length := by
  intro l
  induction l with
  | nil =>
    intro m
    have : (List.range m).filterMap (firstR []) = [] := by
      rw [List.filterMap_eq_nil_iff]; intro k _; rfl
    rw [this]; exact Nat.le_refl _
  | cons x l ih =>
    intro m
    have key : ∀ m : Nat, (((List.range m).filterMap (firstR (x :: l))).filter p).length ≤ (((List.range m).filterMap (firstR l)).filter p).length + (if p x = true ∧ 1 ≤ x.f0 ∧ x.f0 ≤ m then 1 else 0) := by
      intro m
      induction m with
      | zero => simp
      | succ m ihm =>
        rw [List.range_succ, List.filterMap_append, List.filterMap_append, List.filter_append, List.filter_append, List.length_append, List.length_append, List.filterMap_cons, List.filterMap_cons, firstR_cons]
        simp only [List.filterMap_nil]
        by_cases h : x.f0 = (m : Int) + 1
        · rw [if_pos h]
          have e0 : ¬ (p x = true ∧ 1 ≤ x.f0 ∧ x.f0 ≤ (m : Int)) := fun e => by omega
          rw [if_neg e0] at ihm
          cases hp : p x with
          | true => rw [if_pos ⟨rfl, by omega, by omega⟩]; simp [hp]; omega
          | false => simp [hp]; omega
        · rw [if_neg h]
          have e : (p x = true ∧ 1 ≤ x.f0 ∧ x.f0 ≤ ((m + 1 : Nat) : Int)) ↔ (p x = true ∧ 1 ≤ x.f0 ∧ x.f0 ≤ (m : Int)) := by
            constructor <;> rintro ⟨a, b, c⟩ <;> exact ⟨a, b, by omega⟩
          by_cases hc : p x = true ∧ 1 ≤ x.f0 ∧ x.f0 ≤ (m : Int)
          · rw [if_pos hc] at ihm
            rw [if_pos (e.2 hc)]
            omega
          · rw [if_neg hc] at ihm
            rw [if_neg (fun q => hc (e.1 q))]
            omega
    refine Nat.le_trans (key m) ?_
    have := ih m
    cases hp : p x with
    | true => rw [List.filter_cons_of_pos hp, List.length_cons]; split <;> omega
    | false => rw [List.filter_cons_of_neg (by rw [hp]; decide), if_neg (by rintro ⟨a, _⟩; cases a)]; omega
theorem best_mem (st : Int) : ∀ (c : List S35) (a : Bool × S33), ((c.foldl (stepB st) a) = a) ∨ ((c.foldl (stepB st) a).1 = true ∧ ∃ x ∈ c, x.f1 = (c.foldl (stepB st) a).2 ∧ x.f1.f0 = st) := by
  intro c
  induction c with
  | nil => intro a; exact .inl rfl
  | cons x c ih =>
    intro a
    rw [List.foldl_cons]
    rcases ih (stepB st a x) with h | ⟨h1, y, hy, h2⟩
    · rw [h]
      by_cases hs : x.f1.f0 = st
      · have hx : stepB st a x = a ∨ stepB st a x = (true, x.f1) := by
          unfold stepB
          rw [if_pos hs]
          split
          · split
            · exact .inr rfl
            · exact .inl rfl
          · exact .inr rfl
        rcases hx with hx | hx
        · exact .inl hx
        · exact .inr ⟨by rw [hx], x, List.mem_cons_self, by rw [hx], hs⟩
      · exact .inl (by unfold stepB; rw [if_neg hs])
    · exact .inr ⟨h1, y, List.mem_cons_of_mem _ hy, h2⟩
theorem best_some {c : List S35} {st : Int} (h : (bestP c st).1 = true) : ∃ x ∈ c, x.f1 = (bestP c st).2 ∧ x.f1.f0 = st := by
  rcases best_mem st c (false, z33) with h1 | ⟨_, h1⟩
  · rw [bestP, h1] at h; cases h
  · exact h1
/-- the five tries, laid open -/
theorem choose_eq (n o : Int) (c : List S35) : chooseP n o c = if tb (try0 c) = true then t9 (try0 c) else if tb (try1 n c) = true then t9 (try1 n c) else if tb (try2 c) = true then t9 (try2 c) else if tb (try3 o c) = true then t9 (try3 o c) else if tb (try4 c) = true then t9 (try4 c) else (4, 0, 0, 0, 0, 0, ⟨#[]⟩, 0, []) := rfl
theorem try0_tb (c : List S35) : tb (try0 c) = c.any fun x => x.f1.f0 == 3 := by
  unfold try0
  cases h : c.findIdx? (fun x => x.f1.f0 == 3) with
  | none => rw [List.findIdx?_eq_none_iff] at h; symm; show _ = false; rw [List.any_eq_false]; exact fun x hx => by rw [h x hx]; decide
  | some i =>
    rw [List.findIdx?_eq_some_iff_getElem] at h
    symm
    show _ = true
    rw [List.any_eq_true]
    exact ⟨_, List.getElem_mem h.1, h.2.1⟩
theorem try2_mem {c : List S35} (h : tb (try2 c) = true) : ∃ x ∈ c, x.f1.f0 = 2 ∧ try2 c = take10 x.f1 2 := by
  unfold try2 at h ⊢
  by_cases h1 : (bestP c 2).1 = true
  · obtain ⟨x, hx, e, hs⟩ := best_some h1
    rw [if_pos h1] at h ⊢
    by_cases h2 : (bestP c 1).1 = true
    · rw [if_pos h2] at h ⊢
      split at h
      · cases h
      · rename_i h3; rw [if_neg h3]; exact ⟨x, hx, hs, by rw [e]⟩
    · rw [if_neg h2]; exact ⟨x, hx, hs, by rw [e]⟩
  · rw [if_neg h1] at h; cases h
/-- is a report first, and the same as another one? -/
theorem not_odd {o : Int} {x y : S35} (h : oddR o x y = false) : x.f1.f0 = 1 ∧ (x.f1.f2.f0 = 0 ∧ x.f1.f2.f1 = o) ∧ (x.f1.f3.f0 = y.f1.f3.f0 ∧ x.f1.f3.f1 = y.f1.f3.f1 ∧ x.f1.f3.f2 = y.f1.f3.f2 ∧ x.f1.f3.f3 = y.f1.f3.f3 ∧ x.f1.f3.f4 = y.f1.f3.f4 ∧ x.f1.f3.f5.toList = y.f1.f3.f5.toList) ∧ sameR x.f1.f4.f0 x.f1.f4.f1 y.f1.f4.f0 y.f1.f4.f1 = true := by
  unfold oddR at h
  simp only [Bool.or_eq_false_iff, Bool.not_eq_false', bne_eq_false_iff_eq, beq_iff_eq] at h
  exact ⟨h.1, h.2.1, h.2.2.1, h.2.2.2⟩
theorem not_odd_mk {o : Int} {x y : S35} (h1 : x.f1.f0 = 1) (h2 : x.f1.f2.f0 = 0 ∧ x.f1.f2.f1 = o) (h3 : x.f1.f3.f0 = y.f1.f3.f0 ∧ x.f1.f3.f1 = y.f1.f3.f1 ∧ x.f1.f3.f2 = y.f1.f3.f2 ∧ x.f1.f3.f3 = y.f1.f3.f3 ∧ x.f1.f3.f4 = y.f1.f3.f4 ∧ x.f1.f3.f5.toList = y.f1.f3.f5.toList) (h4 : sameR x.f1.f4.f0 x.f1.f4.f1 y.f1.f4.f0 y.f1.f4.f1 = true) : oddR o x y = false := by
  unfold oddR
  simp only [Bool.or_eq_false_iff, Bool.not_eq_false', bne_eq_false_iff_eq, beq_iff_eq]
  exact ⟨h1, h2, h3, h4⟩
theorem sameAll_iff (o : Int) (c : List S35) : sameAll o c = true ↔ ∀ x ∈ c, oddR o x (rd_T35 c 0) = false := by
  unfold sameAll
  rw [Bool.not_eq_true', List.any_eq_false]
  constructor
  · intro h x hx; have := h x hx; simpa using this
  · intro h x hx; rw [h x hx]; decide
theorem rd0_mem {c : List S35} (h : 0 < c.length) : rd_T35 c 0 ∈ c := by
  have := rdTR_at c 0 h
  rw [show (0 : Int) = ((0 : Nat) : Int) from rfl, this]
  exact List.getElem_mem h
end Go.Proofs.Ytomgiaakhpemaaa.P
