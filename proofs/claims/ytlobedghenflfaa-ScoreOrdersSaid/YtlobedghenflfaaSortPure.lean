/- Sorting, in the words of the printed functions. -/
import Derived.Test.YtlobedghenflfaaPx0
import Derived.Test.YtlobedghenflfaaPx1
import Derived.Test.YtlobedghenflfaaPx2
import Derived.Test.YtlobedghenflfaaScore
import Derived.Test.YtlobedghenflfaaSortT
namespace Go.Proofs.Ytlobedghenflfaa.P
open Go.RowKit Go.Proofs.YtlobedghenflfaaW.PrintWords Go.Proofs.YtlobedghenflfaaW.PrintLast Go.Proofs.YtlobedghenflfaaW.PrintMore Go.Proofs.Ytlobedghenflfaa.S
set_option linter.unusedVariables false
set_option linter.unusedSimpArgs false
theorem words_of (l : List Int) (h : ∀ x ∈ l, (Lit.int .u64 x).wf = true) : Wd l := fun x hx => by
  obtain ⟨X, rfl, hX⟩ := u64_range x (h x hx)
  omega
theorem sort_f (l : List Int) (h : l.length ≤ 1099511627776) (hW : Wd l) : score_Sort.f l = some (sortS kz l) := by
  unfold score_Sort.f
  rw [if_pos]
  refine ⟨h, List.all_eq_true.2 (fun x hx => ?_)⟩
  have := hW x hx
  simp only [Bool.and_eq_true, decide_eq_true_eq]
  omega
theorem rd_nat' (l : List Int) (i : Nat) : rd l (i : Int) = l.getD i 0 := by unfold rd; rw [Int.toNat_natCast]
theorem rd_word (l : List Int) (h : Wd l) (i : Nat) (hi : i < l.length) : 0 ≤ rd l (i : Int) ∧ rd l (i : Int) < 2 ^ 64 := by
  rw [rd_nat']; exact h _ (getD_mem l i hi)
theorem cmp_cz (x y : Int) (hx : 0 ≤ x ∧ x < 2 ^ 64) (hy : 0 ≤ y ∧ y < 2 ^ 64) : score_Cmp.f x y = some (cz x y) := by
  unfold score_Cmp.f
  rw [if_pos ⟨hx, hy⟩]
  unfold cz kz
  rw [Fl.cmpW_eq _ _ (by omega) (by omega)]
theorem cz_not_gt {x y : Int} (h : kz x ≤ kz y) : ¬ cz x y > 0 := by
  unfold cz Fl.cmpI
  split <;> (try split) <;> omega
theorem count_next (l : List Int) (x : Int) (i : Nat) (hi : i < l.length) : (l.take (i + 1)).count x = (l.take i).count x + (if rd l (i : Int) = x then 1 else 0) := by
  rw [List.take_succ_eq_append_getElem hi, List.count_append, rd_nat', List.getD_eq_getElem?_getD, List.getElem?_eq_getElem hi]
  congr 1
  show List.count x [l[i]] = if l[i] = x then 1 else 0
  rw [List.count_singleton]
  by_cases h : l[i] = x <;> simp [h]
theorem same_l0 (s : List Int) (hs : s.length ≤ 4611686018427387904) : ∀ (d i K : Nat), s.length - i ≤ d → i ≤ s.length → d + 1 ≤ K → colloquyref13_Same.l0 K s s (i : Int) = some true := by
  intro d
  induction d with
  | zero =>
    intro i K hd hi hK
    obtain ⟨K, rfl⟩ : ∃ q, K = q + 1 := ⟨K - 1, by omega⟩
    simp only [colloquyref13_Same.l0]
    rw [if_neg (by omega)]
  | succ d ih =>
    intro i K hd hi hK
    by_cases hlt : i < s.length
    · obtain ⟨K, rfl⟩ : ∃ q, K = q + 1 := ⟨K - 1, by omega⟩
      have hw : wrap64 ((i : Int) + 1) = ((i + 1 : Nat) : Int) := by unfold wrap64; omega
      simp only [colloquyref13_Same.l0]
      rw [if_pos (by omega), if_pos (by omega), if_pos (by omega), if_pos trivial, hw]
      exact ih (i + 1) K (by omega) (by omega) (by omega)
    · exact ih i K (by omega) hi (by omega)
theorem same_self (s : List Int) (K : Nat) (hs : s.length ≤ 4611686018427387904) (hK : s.length + 1 ≤ K) : colloquyref13_Same.f K s s = some true := by
  unfold colloquyref13_Same.f
  rw [if_pos rfl]
  exact same_l0 s hs s.length 0 K (by omega) (by omega) hK
end Go.Proofs.Ytlobedghenflfaa.P
