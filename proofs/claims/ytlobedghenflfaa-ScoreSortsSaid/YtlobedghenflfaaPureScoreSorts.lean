/- The plain side of the law ScoreSorts. -/
import Derived.Test.YtlobedghenflfaaPx0
import Derived.Test.YtlobedghenflfaaPx3
import Derived.Test.YtlobedghenflfaaScore
import Derived.Test.YtlobedghenflfaaSortPure
namespace Go.Proofs.Ytlobedghenflfaa.Pure
open Go.RowKit Go.Proofs.Ytlobedghenflfaa.P Go.Proofs.YtlobedghenflfaaW.PrintWords Go.Proofs.YtlobedghenflfaaW.PrintLast Go.Proofs.Ytlobedghenflfaa.S
set_option linter.unusedVariables false
theorem ScoreSorts.pure (l : List Int) (x : Int) (h2 : ∀ x ∈ l, (Lit.int .u64 x).wf = true) : ∃ k, colloquylaw13_ScoreSorts.f k l x = some true := by
  have hW : Wd l := words_of l h2
  by_cases h60 : (l.length : Int) > 60
  · refine ⟨1, ?_⟩
    unfold colloquylaw13_ScoreSorts.f
    rw [awake_eq, bs, if_pos rfl, decide_eq_true h60]
    simp only [colloquylaw13_ScoreSorts.j0]
    rfl
  · have hl : l.length ≤ 60 := by omega
    obtain ⟨s, hs⟩ : ∃ s, sortS kz l = s := ⟨_, rfl⟩
    have hsl : s.length = l.length := by rw [← hs, sortS_len]
    have hsw : Wd s := by rw [← hs]; exact fun y hy => hW y ((sortS_mem kz l y).1 hy)
    have hss : Sd kz s := by rw [← hs]; exact sortS_sorted kz _ l rfl
    have hperm : s.Perm l := by rw [← hs]; exact sortS_perm kz _ l rfl
    have hid : sortS kz s = s := sortS_id kz _ s rfl hss
    have loop : ∀ (d i K : Nat), l.length - i ≤ d → i ≤ l.length → 2 * d + l.length + 10 ≤ K →
        colloquylaw13_ScoreSorts.l0 K l x s ((l.take i).count x : Nat) ((s.take i).count x : Nat) (i : Int) = some true := by
      intro d
      induction d with
      | zero =>
        intro i K hd hi hK
        obtain ⟨K, rfl⟩ : ∃ q, K = q + 1 := ⟨K - 1, by omega⟩
        have : i = l.length := by omega
        subst this
        simp only [colloquylaw13_ScoreSorts.l0]
        rw [if_neg (by omega), sort_f s (by omega) hsw, bs, hid, same_self s K (by omega) (by omega), bs, if_pos rfl, List.take_length, List.take_of_length_le (by omega), hperm.count_eq]
        simp
      | succ d ih =>
        intro i K hd hi hK
        by_cases hlt : i < l.length
        · obtain ⟨K, rfl⟩ : ∃ q, K = q + 2 := ⟨K - 2, by omega⟩
          have hw : wrap64 ((i : Int) + 1) = ((i + 1 : Nat) : Int) := by unfold wrap64; omega
          have c1 : ((l.take i).count x : Nat) ≤ 60 := Nat.le_trans List.count_le_length (by rw [List.length_take]; omega)
          have c2 : ((s.take i).count x : Nat) ≤ 60 := Nat.le_trans List.count_le_length (by rw [List.length_take]; omega)
          have hw1 : wrap64 (((l.take i).count x : Nat) + 1) = (((l.take i).count x + 1 : Nat) : Int) := by unfold wrap64; omega
          have hw2 : wrap64 (((s.take i).count x : Nat) + 1) = (((s.take i).count x + 1 : Nat) : Int) := by unfold wrap64; omega
          have n1 : (l.take (i + 1)).count x = (l.take i).count x + (if rd l (i : Int) = x then 1 else 0) := count_next l x i hlt
          have n2 : (s.take (i + 1)).count x = (s.take i).count x + (if rd s (i : Int) = x then 1 else 0) := count_next s x i (by omega)
          have step : colloquylaw13_ScoreSorts.j2 (K + 1) l x s ((l.take i).count x : Nat) ((s.take i).count x : Nat) (i : Int) false = some true := by
            simp only [colloquylaw13_ScoreSorts.j2]
            rw [if_neg (by simp), if_pos (by omega), if_pos (by omega), hw, hw1, hw2]
            have hih := ih (i + 1) K (by omega) (by omega) (by omega)
            rw [n1, n2] at hih
            by_cases p1 : rd l (i : Int) = x
            · rw [if_pos p1] at hih ⊢
              rw [if_pos (by omega)]
              by_cases p2 : rd s (i : Int) = x
              · rw [if_pos p2] at hih ⊢; exact hih
              · rw [if_neg p2] at hih ⊢; exact hih
            · rw [if_neg p1] at hih ⊢
              rw [if_pos (by omega)]
              by_cases p2 : rd s (i : Int) = x
              · rw [if_pos p2] at hih ⊢; exact hih
              · rw [if_neg p2] at hih ⊢; exact hih
          rw [show K + 2 = (K + 1) + 1 from rfl]
          simp only [colloquylaw13_ScoreSorts.l0]
          rw [if_pos (by omega)]
          by_cases hi0 : (i : Int) > 0
          · have hw0 : wrap64 ((i : Int) - 1) = ((i - 1 : Nat) : Int) := by unfold wrap64; omega
            rw [if_pos hi0, hw0, if_pos (by omega), if_pos (by omega), if_pos (by omega), if_pos (by omega)]
            rw [cmp_cz _ _ (rd_word s hsw (i - 1) (by omega)) (rd_word s hsw i (by omega)), bs]
            have hle : kz (rd s ((i - 1 : Nat) : Int)) ≤ kz (rd s (i : Int)) := by
              rw [rd_nat' s, rd_nat' s]
              exact sd_get hss (i - 1) i (by omega) (by omega)
            rw [decide_eq_false (cz_not_gt hle)]
            exact step
          · rw [if_neg hi0]
            exact step
        · exact ih i K (by omega) hi (by omega)
    refine ⟨3 * l.length + 20, ?_⟩
    unfold colloquylaw13_ScoreSorts.f
    rw [awake_eq, bs, if_pos rfl, decide_eq_false h60, show 3 * l.length + 20 = (3 * l.length + 19) + 1 from rfl]
    simp only [colloquylaw13_ScoreSorts.j0]
    rw [if_neg (by simp), sort_f l (by omega) hW, bs, hs, if_pos (by omega)]
    have := loop l.length 0 (3 * l.length + 19) (by omega) (by omega) (by omega)
    simpa using this
theorem ScoreSorts : colloquylaw13_ScoreSorts.Pure := fun l x _ _ h _ => ScoreSorts.pure l x h
end Go.Proofs.Ytlobedghenflfaa.Pure
