/- What the printed functions of layer 6 that merge come to, by the program and by the document, as plain statements on lists of numbers; lengths stay at most 10^6. -/
import Derived.Test.YtolfjfepehmfgaaPx0
import Derived.Test.YtolfjfepehmfgaaPx1
import Derived.Test.YtolfjfepehmfgaaPx3
import Derived.Test.YtolfjfepehmfgaaPx4
import Derived.Test.YtolfjfepehmfgaaAttrD
namespace Go.Proofs.Ytolfjfepehmfgaa.P
open Go.RowKit Go.Proofs.YtolfjfepehmfgaaW.PrintWords Go.Proofs.YtolfjfepehmfgaaW.PrintLast Go.Proofs.YtolfjfepehmfgaaW.PrintMore
set_option linter.unusedVariables false
theorem mx_eq (a b : Int) : mx a b = max a b := by unfold mx; split <;> omega
def mxl : List Int → List Int → List Int
  | xs, [] => xs
  | [], d :: ds => mx 0 d :: mxl [] ds
  | x :: xs, d :: ds => mx x d :: mxl xs ds
theorem mxl_nil (xs : List Int) : mxl xs [] = xs := by cases xs <;> rfl
theorem mxl_length : ∀ (xs ds : List Int), (mxl xs ds).length = max xs.length ds.length
  | xs, [] => by rw [mxl_nil]; simp
  | [], d :: ds => by simp [mxl, mxl_length [] ds]
  | x :: xs, d :: ds => by simp [mxl, mxl_length xs ds]
theorem mxl_get : ∀ (xs ds : List Int) (i : Nat), (∀ x, x ∈ xs → 0 ≤ x) → (mxl xs ds).getD i 0 = max (max (xs.getD i 0) (ds.getD i 0)) 0
  | xs, [], i, h => by
    rw [mxl_nil]
    have : 0 ≤ xs.getD i 0 := by
      rw [List.getD_eq_getElem?_getD]
      rcases Nat.lt_or_ge i xs.length with hi | hi
      · rw [List.getElem?_eq_getElem hi]; exact h _ (List.getElem_mem hi)
      · rw [List.getElem?_eq_none hi]; simp
    simp only [List.getD_nil]; omega
  | [], d :: ds, 0, h => by simp only [mxl, List.getD_cons_zero, List.getD_nil, mx_eq]; omega
  | [], d :: ds, i + 1, h => by
    simp only [mxl, List.getD_cons_succ]; rw [mxl_get [] ds i (fun x hx => by simp at hx)]; simp only [List.getD_nil]
  | x :: xs, d :: ds, 0, h => by have := h x (by simp); simp only [mxl, List.getD_cons_zero, mx_eq]; omega
  | x :: xs, d :: ds, i + 1, h => by
    simp only [mxl, List.getD_cons_succ]; exact mxl_get xs ds i (fun y hy => h y (List.mem_cons_of_mem _ hy))
theorem mxl_nonneg : ∀ (xs ds : List Int), (∀ x, x ∈ xs → 0 ≤ x) → ∀ y, y ∈ mxl xs ds → 0 ≤ y
  | xs, [], h => by rw [mxl_nil]; exact h
  | [], d :: ds, h => fun y hy => by
    simp only [mxl, List.mem_cons] at hy
    rcases hy with rfl | hy
    · rw [mx_eq]; omega
    · exact mxl_nonneg [] ds h y hy
  | x :: xs, d :: ds, h => fun y hy => by
    simp only [mxl, List.mem_cons] at hy
    rcases hy with rfl | hy
    · have := h x (by simp); rw [mx_eq]; omega
    · exact mxl_nonneg xs ds (fun z hz => h z (List.mem_cons_of_mem _ hz)) y hy
/-- one more attribute -/
def mg1 (m : Int × List Int) (a : S27) : Int × List Int := (mx m.1 a.f0, mxl m.2 a.f1)
def mg (l : List S27) : Int × List Int := l.foldl mg1 (0, [])
theorem mxl_step (y a : List Int) (i : Nat) (hi : i < a.length) (hy : i < y.length) :
    (y.set i (mx (y.getD i 0) (a.getD i 0))).take (i + 1) ++ mxl ((y.set i (mx (y.getD i 0) (a.getD i 0))).drop (i + 1)) (a.drop (i + 1)) = y.take i ++ mxl (y.drop i) (a.drop i) := by
  rw [List.drop_eq_getElem_cons hi, List.drop_eq_getElem_cons hy, mxl, List.drop_set_of_lt (by omega), List.take_set, List.take_succ_eq_append_getElem hy,
    List.set_append_right i _ (by simp; omega)]
  simp [List.getD_eq_getElem?_getD, List.getElem?_eq_getElem hi, List.getElem?_eq_getElem hy, Nat.min_eq_left (Nat.le_of_lt hy)]
theorem mxl_step0 (y a : List Int) (hi : y.length < a.length) :
    ((y ++ [0]).set y.length (mx ((y ++ [0]).getD y.length 0) (a.getD y.length 0))).take (y.length + 1) ++ mxl (((y ++ [0]).set y.length (mx ((y ++ [0]).getD y.length 0) (a.getD y.length 0))).drop (y.length + 1)) (a.drop (y.length + 1)) = y.take y.length ++ mxl (y.drop y.length) (a.drop y.length) := by
  rw [mxl_step (y ++ [0]) a y.length hi (by simp)]
  rw [List.take_append_of_le_length (Nat.le_refl _), List.drop_append_of_le_length (Nat.le_refl _), List.drop_length, List.nil_append, List.drop_eq_getElem_cons hi]
  rfl
theorem attr_Merge.l1_ev (x8 : List S27) (x9 x10 s : Int) (a : List Int) (ha : a.length ≤ 1000000) (r : Int × List Int) : ∀ (d i : Nat) (y : List Int), i + d = a.length → i ≤ y.length → y.length ≤ 1000000 →
    Ev (fun k => attr_Merge.l0 k x8 x9 (wrap64 (x10 + 1)) s (y.take i ++ mxl (y.drop i) (a.drop i))) r → Ev (fun k => attr_Merge.l1 k x8 x9 x10 a (a.length : Int) (i : Int) s y) r := by
  intro d
  induction d with
  | zero =>
    intro i y hi hy hyl h
    refine Ev.step (f := fun k => attr_Merge.l0 k x8 x9 (wrap64 (x10 + 1)) s y) (fun k => ?_) ?_
    · simp only [attr_Merge.l1]; rw [if_neg (by omega)]
    · rw [List.drop_of_length_le (l := a) (by omega), mxl_nil, List.take_append_drop] at h; exact h
  | succ d ih =>
    intro i y hi hy hyl h
    have e2 : wrap64 ((i : Int) + 1) = ((i + 1 : Nat) : Int) := by unfold wrap64; omega
    by_cases hc : i = y.length
    · subst hc
      refine Ev.step (f := fun k => attr_Merge.l1 k x8 x9 x10 a (a.length : Int) ((y.length + 1 : Nat) : Int) s ((y ++ [0]).set y.length (mx ((y ++ [0]).getD y.length 0) (a.getD y.length 0)))) (fun k => ?_) ?_
      · simp only [attr_Merge.l1]
        rw [if_pos (by omega), if_pos (by omega), if_pos (by omega), if_pos trivial, if_pos (by omega)]
        simp only [Option.bind_some]
        rw [if_pos (by simp; omega), e2]
        simp [rd]
      · refine ih (y.length + 1) _ (by omega) (by simp) (by simp; omega) ?_
        rw [mxl_step0 y a (by omega)]; exact h
    · refine Ev.step (f := fun k => attr_Merge.l1 k x8 x9 x10 a (a.length : Int) ((i + 1 : Nat) : Int) s (y.set i (mx (y.getD i 0) (a.getD i 0)))) (fun k => ?_) ?_
      · simp only [attr_Merge.l1]
        rw [if_pos (by omega), if_pos (by omega), if_pos (by omega), if_neg (by omega), if_pos (by omega), e2]
        simp [rd]
      · refine ih (i + 1) _ (by omega) (by simp; omega) (by simpa using hyl) ?_
        rw [mxl_step y a i (by omega) (by omega)]; exact h
theorem rd_T_at (l : List S27) (j : Nat) (h : j < l.length) : rd_T27 l (j : Int) = l[j] := by
  unfold rd_T27; simp [List.getD_eq_getElem?_getD, List.getElem?_eq_getElem h]
theorem attr_Merge.l0_ev (l : List S27) (hl : l.length ≤ 1000000) (hd : ∀ a, a ∈ l → a.f1.length ≤ 1000000) : ∀ (d j : Nat) (s : Int) (y : List Int), j + d = l.length → y.length ≤ 1000000 →
    Ev (fun k => attr_Merge.l0 k l (l.length : Int) (j : Int) s y) ((l.drop j).foldl mg1 (s, y)) := by
  intro d
  induction d with
  | zero =>
    intro j s y hj hy
    refine Ev.step (f := fun _ => some (s, y)) (fun k => ?_) ?_
    · simp only [attr_Merge.l0]; rw [if_neg (by omega)]
    · rw [List.drop_of_length_le (by omega)]; exact Ev.now _
  | succ d ih =>
    intro j s y hj hy
    have hj' : j < l.length := by omega
    have hm := hd _ (List.getElem_mem hj')
    refine Ev.step (f := fun k => attr_Merge.l1 k l (l.length : Int) (j : Int) (l[j].f1) (l[j].f1.length : Int) ((0 : Nat) : Int) (mx s l[j].f0) y) (fun k => ?_) ?_
    · simp only [attr_Merge.l0]
      rw [if_pos (by omega), if_pos (by omega), if_pos (by omega), rd_T_at l j hj']; rfl
    · refine attr_Merge.l1_ev l _ _ _ _ hm _ l[j].f1.length 0 y (by omega) (by omega) hy ?_
      rw [List.drop_eq_getElem_cons hj', List.foldl_cons]
      rw [show wrap64 ((j : Int) + 1) = ((j + 1 : Nat) : Int) by unfold wrap64; omega]
      simp only [List.take_zero, List.nil_append, List.drop_zero]
      exact ih (j + 1) _ _ (by omega) (by rw [mxl_length]; omega)
theorem attr_Merge.ev (l : List S27) (hl : l.length ≤ 1000000) (hd : ∀ a, a ∈ l → a.f1.length ≤ 1000000) : Ev (fun k => attr_Merge.f k l) (mg l) := by
  have := attr_Merge.l0_ev l hl hd l.length 0 0 [] (by omega) (by simp)
  unfold attr_Merge.f mg
  simpa using this

/-- the document's way for two -/
def rm (a b : List Int) (i d : Nat) : List Int := (List.range' i d).map (fun j => max (max (a.getD j 0) (b.getD j 0)) 0)
theorem ref_Merge.l0_ev (s : Int) (a : List Int) (t : Int) (b : List Int) (q : Int) (ha : a.length ≤ 1000000) (hb : b.length ≤ 1000000) : ∀ (d i : Nat) (y : List Int), i + d = max a.length b.length → y.length ≤ 1000000 + i →
    Ev (fun k => colloquyref06_Merge.l0 k ((i : Int) + 1) s a t b q y) (q, y ++ rm a b i d) := by
  intro d
  induction d with
  | zero =>
    intro i y hi hy
    refine Ev.step (f := fun k => colloquyref06_Merge.j3 k ((i : Int) + 1) false s a t b q y) (fun k => ?_) (Ev.step (f := fun _ => some (q, y)) (fun k => ?_) ?_)
    · simp only [colloquyref06_Merge.l0]; rw [if_neg (by omega), decide_eq_false (by omega)]
    · simp only [colloquyref06_Merge.j3]; simp
    · simp only [rm, List.range'_zero, List.map_nil, List.append_nil]; exact Ev.now _
  | succ d ih =>
    intro i y hi hy
    refine Ev.step (f := fun k => colloquyref06_Merge.j3 k ((i : Int) + 1) true s a t b q y) (fun k => ?_) ?_
    · simp only [colloquyref06_Merge.l0]
      by_cases h : (i : Int) + 1 ≤ (a.length : Int)
      · rw [if_pos h]
      · rw [if_neg h, decide_eq_true (by omega)]
    refine Ev.step (f := fun k => colloquyref06_Merge.j4 k ((i : Int) + 1) (max (a.getD i 0) 0) s a t b q y) (fun k => ?_) ?_
    · simp only [colloquyref06_Merge.j3]
      rw [if_pos trivial, ref_Dep.eq _ _ (by omega) _ (by omega)]
      simp only [Option.bind_some]
      by_cases h : a.getD i 0 > 0
      · rw [if_pos h, show max (a.getD i 0) 0 = a.getD i 0 by omega]
      · rw [if_neg h, show max (a.getD i 0) 0 = 0 by omega]
    refine Ev.step (f := fun k => colloquyref06_Merge.l0 k (((i + 1 : Nat) : Int) + 1) s a t b q (y ++ [max (max (a.getD i 0) (b.getD i 0)) 0])) (fun k => ?_) ?_
    · simp only [colloquyref06_Merge.j4]
      rw [ref_Dep.eq _ _ (by omega) _ (by omega)]
      simp only [Option.bind_some]
      have ew : wrap64 ((i : Int) + 1 + 1) = ((i + 1 : Nat) : Int) + 1 := by unfold wrap64; omega
      by_cases h : b.getD i 0 > max (a.getD i 0) 0
      · rw [if_pos h, if_pos (by omega), ew, show max (max (a.getD i 0) (b.getD i 0)) 0 = b.getD i 0 by omega]
      · rw [if_neg h, if_pos (by omega), ew, show max (max (a.getD i 0) (b.getD i 0)) 0 = max (a.getD i 0) 0 by omega]
    · have := ih (i + 1) (y ++ [max (max (a.getD i 0) (b.getD i 0)) 0]) (by omega) (by simp; omega)
      rw [show y ++ rm a b i (d + 1) = (y ++ [max (max (a.getD i 0) (b.getD i 0)) 0]) ++ rm a b (i + 1) d by simp [rm, List.range'_succ]]
      exact this
theorem ref_Merge.ev (s : Int) (a : List Int) (t : Int) (b : List Int) (ha : a.length ≤ 1000000) (hb : b.length ≤ 1000000) :
    Ev (fun k => colloquyref06_Merge.f k s a t b) (max (max s t) 0, rm a b 0 (max a.length b.length)) := by
  have key : ∀ q, Ev (fun k => colloquyref06_Merge.j1 k s a t b q) (q, rm a b 0 (max a.length b.length)) := fun q =>
    Ev.step (f := fun k => colloquyref06_Merge.l0 k 1 s a t b q []) (fun k => by simp only [colloquyref06_Merge.j1]) (by simpa using ref_Merge.l0_ev s a t b q ha hb _ 0 [] (by omega) (by simp))
  have key0 : ∀ q, Ev (fun k => colloquyref06_Merge.j0 k s a t b q) (max q t, rm a b 0 (max a.length b.length)) := by
    intro q
    refine Ev.step (f := fun k => colloquyref06_Merge.j1 k s a t b (max q t)) (fun k => ?_) (key _)
    simp only [colloquyref06_Merge.j0]
    by_cases h : t > q
    · rw [if_pos h, show max q t = t by omega]
    · rw [if_neg h, show max q t = q by omega]
  unfold colloquyref06_Merge.f
  by_cases h : s > 0
  · simp only [if_pos h]; rw [show max (max s t) 0 = max s t by omega]; exact key0 s
  · simp only [if_neg h]; rw [show max (max s t) 0 = max 0 t by omega]; exact key0 0
theorem ext_getD {a b : List Int} (hl : a.length = b.length) (h : ∀ i, i < a.length → a.getD i 0 = b.getD i 0) : a = b := by
  refine List.ext_getElem hl fun i h1 h2 => ?_
  have := h i h1
  simpa [List.getD_eq_getElem?_getD, List.getElem?_eq_getElem h1, List.getElem?_eq_getElem h2] using this
theorem rm_mxl (a b : List Int) (ha : ∀ x, x ∈ a → 0 ≤ x) : rm a b 0 (max a.length b.length) = mxl a b := by
  refine ext_getD (by simp [rm, mxl_length]) fun i hi => ?_
  have hi' : i < max a.length b.length := by simpa [rm] using hi
  rw [mxl_get a b i ha]
  unfold rm
  rw [List.getD_eq_getElem?_getD, List.getElem?_map, List.getElem?_range' hi']
  simp
theorem ref_All.l0_ev (l : List S27) (hl : l.length ≤ 1000000) (hd : ∀ a, a ∈ l → a.f1.length ≤ 1000000) : ∀ (d j : Nat) (s : Int) (y : List Int), j + d = l.length → 0 ≤ s → (∀ x, x ∈ y → 0 ≤ x) → y.length ≤ 1000000 →
    Ev (fun k => colloquyref06_All.l0 k l (j : Int) s y) ((l.drop j).foldl mg1 (s, y)) := by
  intro d
  induction d with
  | zero =>
    intro j s y hj hs hy hyl
    refine Ev.step (f := fun _ => some (s, y)) (fun k => ?_) ?_
    · simp only [colloquyref06_All.l0]; rw [if_neg (by omega)]
    · rw [List.drop_of_length_le (by omega)]; exact Ev.now _
  | succ d ih =>
    intro j s y hj hs hy hyl
    have hj' : j < l.length := by omega
    have hm := hd _ (List.getElem_mem hj')
    refine Ev.step (f := fun k => (colloquyref06_Merge.f k s y l[j].f0 l[j].f1).bind fun bt => colloquyref06_All.l0 k l ((j + 1 : Nat) : Int) bt.1 bt.2) (fun k => ?_) ?_
    · simp only [colloquyref06_All.l0]
      rw [if_pos (by omega), if_pos (by omega), rd_T_at l j hj', show wrap64 ((j : Int) + 1) = ((j + 1 : Nat) : Int) by unfold wrap64; omega]
    · have h1 := ref_Merge.ev s y l[j].f0 l[j].f1 hyl hm
      rw [rm_mxl y _ hy, show max (max s l[j].f0) 0 = mx s l[j].f0 by rw [mx_eq]; omega] at h1
      refine Ev.bind (f := fun n bt => colloquyref06_All.l0 n l ((j + 1 : Nat) : Int) bt.1 bt.2) h1 ?_
      rw [List.drop_eq_getElem_cons hj', List.foldl_cons]
      exact ih (j + 1) _ _ (by omega) (by rw [mx_eq]; omega) (mxl_nonneg y _ hy) (by rw [mxl_length]; omega)
theorem ref_All.ev (l : List S27) (hl : l.length ≤ 1000000) (hd : ∀ a, a ∈ l → a.f1.length ≤ 1000000) : Ev (fun k => colloquyref06_All.f k l) (mg l) := by
  have := ref_All.l0_ev l hl hd l.length 0 0 [] (by omega) (Int.le_refl _) (fun x h => by simp at h) (by simp)
  unfold colloquyref06_All.f mg
  simpa using this
end Go.Proofs.Ytolfjfepehmfgaa.P
