/- Plain facts for the laws of layer 10 (regain): which reports count, what is chosen; no condition but each one's own. -/
import Derived.Test.YtomgiaakhpemaaaPx0
import Derived.Test.YtomgiaakhpemaaaPx3
import Derived.Test.YtomgiaakhpemaaaPx6
import Derived.Test.YtomgiaakhpemaaaPx7
import Derived.Test.YtomgiaakhpemaaaPx8
namespace Go.Proofs.Ytomgiaakhpemaaa.P
open Go.RowKit Go.Proofs.YtomgiaakhpemaaaW.PrintWords Go.Proofs.YtomgiaakhpemaaaW.PrintLast Go.Proofs.YtomgiaakhpemaaaW.PrintMore
set_option linter.unusedVariables false
set_option linter.unusedSimpArgs false
def fewB (l : List S35) : Bool := decide ((l.length : Int) ≤ 40) && l.all fun x => decide ((x.f1.f4.f1.length : Int) ≤ 50)
theorem drop_cons (l : List S35) (i : Nat) (h : i < l.length) : l.drop i = rd_T35 l (i : Int) :: l.drop (i + 1) := by rw [rdTR_at l i h]; exact List.drop_eq_getElem_cons h
theorem few_l0 (l : List S35) (hl : l.length ≤ 40) : ∀ (d i : Nat), l.length - i ≤ d → i ≤ l.length → Ev (fun k => colloquylaw10_few.l0 k l (i : Int)) ((l.drop i).all fun x => decide ((x.f1.f4.f1.length : Int) ≤ 50)) := by
  intro d
  induction d with
  | zero =>
    intro i hd hi
    have : i = l.length := by omega
    subst this
    refine Ev.step (f := fun _ => some true) (fun k => ?_) ?_
    · simp only [colloquylaw10_few.l0]; rw [if_neg (by omega)]
    · rw [List.drop_length]; exact Ev.now _
  | succ d ih =>
    intro i hd hi
    by_cases hlt : i < l.length
    · rw [drop_cons l i hlt, List.all_cons]
      by_cases h : ((rd_T35 l (i : Int)).f1.f4.f1.length : Int) ≤ 50
      · refine Ev.step (f := fun k => colloquylaw10_few.l0 k l ((i + 1 : Nat) : Int)) (fun k => ?_) ?_
        · simp only [colloquylaw10_few.l0]; rw [if_pos (by omega), if_pos (by omega), if_neg (by omega), show wrap64 ((i : Int) + 1) = ((i + 1 : Nat) : Int) by unfold wrap64; omega]
        · rw [decide_eq_true h, Bool.true_and]; exact ih (i + 1) (by omega) (by omega)
      · refine Ev.step (f := fun _ => some false) (fun k => ?_) ?_
        · simp only [colloquylaw10_few.l0]; rw [if_pos (by omega), if_pos (by omega), if_pos (by omega)]
        · rw [decide_eq_false h, Bool.false_and]; exact Ev.now _
    · have : i = l.length := by omega
      subst this
      refine Ev.step (f := fun _ => some true) (fun k => ?_) ?_
      · simp only [colloquylaw10_few.l0]; rw [if_neg (by omega)]
      · rw [List.drop_length]; exact Ev.now _
theorem few_ev (l : List S35) : Ev (fun k => colloquylaw10_few.f k l) (fewB l) := by
  unfold colloquylaw10_few.f fewB
  by_cases h : (l.length : Int) > 40
  · simp only [if_pos h, decide_eq_false (show ¬ (l.length : Int) ≤ 40 by omega), Bool.false_and]; exact Ev.now _
  · simp only [if_neg h, decide_eq_true (show (l.length : Int) ≤ 40 by omega), Bool.true_and]
    have := few_l0 l (by omega) l.length 0 (by omega) (by omega)
    simpa using this
theorem awake_true : colloquylaw10_awake.f = some true := by kernel_rfl
theorem fewB_iff (l : List S35) : fewB l = true ↔ l.length ≤ 40 ∧ ∀ x ∈ l, x.f1.f4.f1.length ≤ 50 := by
  unfold fewB
  rw [Bool.and_eq_true, decide_eq_true_iff, List.all_eq_true]
  constructor
  · rintro ⟨h1, h2⟩; exact ⟨by omega, fun x hx => by have := of_decide_eq_true (h2 x hx); omega⟩
  · rintro ⟨h1, h2⟩; exact ⟨by omega, fun x hx => decide_eq_true (by have := h2 x hx; omega)⟩
theorem Decide_some (n o : Int) (l : List S35) (h : ∀ x ∈ l, x.f1.f4.f1.length ≤ 17592186044416) : regain_Decide.f n o l = some (chooseP n o (countP n l)) := by
  unfold regain_Decide.f
  rw [if_pos (List.all_eq_true.2 fun x hx => decide_eq_true (h x hx))]
/-- how many are asked -/
def manyP (n : Int) : Nat := (mn (mx n 1) 7).toNat
theorem manyP_bd (n : Int) : 1 ≤ manyP n ∧ manyP n ≤ 7 := by unfold manyP mn mx; omega
theorem find_at (l : List S35) (p : S35 → Bool) : (l.findIdx? p).map (fun i : Nat => rd_T35 l (i : Int)) = l.find? p := by
  cases h : l.findIdx? p with
  | none =>
    rw [List.findIdx?_eq_none_iff] at h
    symm
    rw [Option.map_none, List.find?_eq_none]
    exact fun x hx => by rw [h x hx]; decide
  | some i =>
    rw [List.findIdx?_eq_some_iff_getElem] at h
    obtain ⟨hi, hp, hn⟩ := h
    symm
    rw [Option.map_some, rdTR_at l i hi, List.find?_eq_some_iff_getElem]
    exact ⟨hp, i, hi, rfl, fun j hj => by have := hn j hj; cases hq : p l[j] with | true => exact absurd hq this | false => rfl⟩
/-- a replica's first report -/
def firstR (l : List S35) (k : Nat) : Option S35 := l.find? fun x => x.f0 == (k : Int) + 1
theorem count_eq (n : Int) (l : List S35) : countP n l = (List.range (manyP n)).filterMap (firstR l) := by
  unfold countP uptoR manyP
  rw [List.map_filterMap]
  congr 1
  funext k
  exact find_at l _
theorem firstR_cons (x : S35) (l : List S35) (k : Nat) : firstR (x :: l) k = if x.f0 = (k : Int) + 1 then some x else firstR l k := by
  unfold firstR
  rw [List.find?_cons]
  by_cases h : x.f0 = (k : Int) + 1
  · rw [if_pos h, show (x.f0 == (k : Int) + 1) = true from beq_iff_eq.2 h]
  · rw [if_neg h, show (x.f0 == (k : Int) + 1) = false from beq_eq_false_iff_ne.2 h]
theorem firstR_mem {l : List S35} {k : Nat} {x : S35} (h : firstR l k = some x) : x ∈ l ∧ x.f0 = (k : Int) + 1 := ⟨List.mem_of_find?_eq_some h, by have := List.find?_some h; simpa using this⟩
theorem count_mem {n : Int} {l : List S35} {x : S35} (h : x ∈ countP n l) : x ∈ l ∧ 1 ≤ x.f0 ∧ x.f0 ≤ manyP n := by
  rw [count_eq] at h
  obtain ⟨k, hk, hx⟩ := List.mem_filterMap.1 h
  obtain ⟨h1, h2⟩ := firstR_mem hx
  have := List.mem_range.1 hk
  exact ⟨h1, by omega, by omega⟩
end Go.Proofs.Ytomgiaakhpemaaa.P
