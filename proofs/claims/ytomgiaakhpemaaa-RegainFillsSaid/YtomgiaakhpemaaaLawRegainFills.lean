/- Plain facts for the laws of layer 10 (regain): which reports count, what is chosen; no condition but each one's own. -/
import Derived.Test.YtomgiaakhpemaaaPx0
import Derived.Test.YtomgiaakhpemaaaPx7
import Derived.Test.YtomgiaakhpemaaaPx9
import Derived.Test.YtomgiaakhpemaaaReg
namespace Go.Proofs.Ytomgiaakhpemaaa.P
open Go.RowKit Go.Proofs.YtomgiaakhpemaaaW.PrintWords Go.Proofs.YtomgiaakhpemaaaW.PrintLast Go.Proofs.YtomgiaakhpemaaaW.PrintMore
set_option linter.unusedVariables false
set_option linter.unusedSimpArgs false
def nnB (x : S35) : Bool := !(x.f1.f0 == 1) && (!(x.f1.f0 == 2) && !(x.f1.f0 == 3))
def cmdB (x : S35) (t : CT) : Bool := x.f1.f3.f0 == t.2.1 && (x.f1.f3.f1 == t.2.2.1 && (x.f1.f3.f2 == t.2.2.2.1 && (x.f1.f3.f3 == t.2.2.2.2.1 && (x.f1.f3.f4 == t.2.2.2.2.2.1 && (x.f1.f3.f5.toList == t.2.2.2.2.2.2.1.toList)))))
def finF (n : Int) (t : CT) (c : Int) (told : Bool) : Bool := if t.1 = 4 then (if c ≥ quorumP n then (t.2.1 == 0 && (t.2.2.1 == 0 && (t.2.2.2.1 == 0 && (t.2.2.2.2.1 == 0 && (t.2.2.2.2.2.1 == 0 && (t.2.2.2.2.2.2.1.toList == ([] : List UInt8))))))) else false) else if t.1 = 0 then true else told
theorem fills_l0 (n : Int) (l : List S35) (hl : l.length ≤ 40) (t : CT) : ∀ (q i c : Nat) (told : Bool), l.length - i ≤ q → i ≤ l.length → c ≤ i →
    Ev (fun k => colloquylaw10_RegainFills.l0 k n l (c : Int) told (i : Int) t.1 t.2.1 t.2.2.1 t.2.2.2.1 t.2.2.2.2.1 t.2.2.2.2.2.1 t.2.2.2.2.2.2.1 t.2.2.2.2.2.2.2.1 t.2.2.2.2.2.2.2.2) (finF n t (((c + ((l.drop i).filter nnB).length : Nat)) : Int) (told || (l.drop i).any fun x => !nnB x && cmdB x t)) := by
  have stop : ∀ (i c : Nat) (told : Bool), i = l.length → Ev (fun k => colloquylaw10_RegainFills.l0 k n l (c : Int) told (i : Int) t.1 t.2.1 t.2.2.1 t.2.2.2.1 t.2.2.2.2.1 t.2.2.2.2.2.1 t.2.2.2.2.2.2.1 t.2.2.2.2.2.2.2.1 t.2.2.2.2.2.2.2.2) (finF n t (((c + ((l.drop i).filter nnB).length : Nat)) : Int) (told || (l.drop i).any fun x => !nnB x && cmdB x t)) := by
    intro i c told hi
    subst hi
    rw [List.drop_length, List.filter_nil, List.length_nil, Nat.add_zero, List.any_nil, Bool.or_false]
    refine Ev.step (f := fun _ => some (finF n t (c : Int) told)) (fun k => ?_) (Ev.now _)
    simp only [colloquylaw10_RegainFills.l0]
    rw [if_neg (by omega), quorum_eq]
    simp only [Option.bind_some]
    unfold finF
    by_cases h1 : t.1 = 4
    · rw [if_pos h1, if_pos h1]
      by_cases h2 : (c : Int) ≥ quorumP n
      · rw [if_pos h2, if_pos h2]
      · rw [if_neg h2, if_neg h2]
    · rw [if_neg h1, if_neg h1]
      by_cases h2 : t.1 = 0
      · rw [if_pos h2, if_pos h2]
      · rw [if_neg h2, if_neg h2]
  intro q
  induction q with
  | zero => intro i c told hd hi hc; exact stop i c told (by omega)
  | succ q ih =>
    intro i c told hd hi hc
    by_cases hlt : i < l.length
    · have hw : wrap64 ((i : Int) + 1) = ((i + 1 : Nat) : Int) := by unfold wrap64; omega
      have hwc : wrap64 ((c : Int) + 1) = ((c + 1 : Nat) : Int) := by unfold wrap64; omega
      rw [drop_cons l i hlt]
      have some_ : ∀ s : Int, (rd_T35 l (i : Int)).f1.f0 = s → (s = 1 ∨ s = 2 ∨ s = 3) → Ev (fun k => colloquylaw10_RegainFills.l0 k n l (c : Int) told (i : Int) t.1 t.2.1 t.2.2.1 t.2.2.2.1 t.2.2.2.2.1 t.2.2.2.2.2.1 t.2.2.2.2.2.2.1 t.2.2.2.2.2.2.2.1 t.2.2.2.2.2.2.2.2) (finF n t (((c + ((rd_T35 l (i : Int) :: l.drop (i + 1)).filter nnB).length : Nat)) : Int) (told || (rd_T35 l (i : Int) :: l.drop (i + 1)).any fun x => !nnB x && cmdB x t)) := by
        intro s hs h123
        have hn : nnB (rd_T35 l (i : Int)) = false := by
          unfold nnB
          rw [hs]
          rcases h123 with rfl | rfl | rfl <;> rfl
        rw [List.filter_cons_of_neg (by rw [hn]; decide), List.any_cons, hn, ← Bool.or_assoc]
        refine Ev.step (fun k => ?_) (ih (i + 1) c (told || (!false && cmdB (rd_T35 l (i : Int)) t)) (by omega) (by omega) (by omega))
        simp only [colloquylaw10_RegainFills.l0]
        rw [if_pos (by omega), if_pos (by omega), hw]
        rcases h123 with rfl | rfl | rfl
        · rw [if_pos hs]
          cases told
          · rw [if_neg (by decide)]; rfl
          · rw [if_pos rfl, Bool.true_or]
        · rw [if_neg (by omega), if_pos hs]
          cases told
          · rw [if_neg (by decide)]; rfl
          · rw [if_pos rfl, Bool.true_or]
        · rw [if_neg (by omega), if_neg (by omega), if_pos hs]
          cases told
          · rw [if_neg (by decide)]; rfl
          · rw [if_pos rfl, Bool.true_or]
      by_cases h1 : (rd_T35 l (i : Int)).f1.f0 = 1
      · exact some_ 1 h1 (.inl rfl)
      by_cases h2 : (rd_T35 l (i : Int)).f1.f0 = 2
      · exact some_ 2 h2 (.inr (.inl rfl))
      by_cases h3 : (rd_T35 l (i : Int)).f1.f0 = 3
      · exact some_ 3 h3 (.inr (.inr rfl))
      have hn : nnB (rd_T35 l (i : Int)) = true := by
        unfold nnB
        rw [beq_eq_false_iff_ne.2 h1, beq_eq_false_iff_ne.2 h2, beq_eq_false_iff_ne.2 h3]; rfl
      rw [List.filter_cons_of_pos hn, List.length_cons, List.any_cons, hn]
      have := ih (i + 1) (c + 1) told (by omega) (by omega) (by omega)
      rw [show c + 1 + ((l.drop (i + 1)).filter nnB).length = c + (((l.drop (i + 1)).filter nnB).length + 1) by omega] at this
      refine Ev.step (fun k => ?_) this
      simp only [colloquylaw10_RegainFills.l0]
      rw [if_pos (by omega), if_pos (by omega), if_neg h1, if_neg h2, if_neg h3, hw, hwc]
    · exact stop i c told (by omega)
theorem cmd_self (m : S33) (k : Int) (x : S35) (h : x.f1 = m) : cmdB x (t9 (take10 m k)) = true := by
  unfold cmdB take10 t9
  rw [h]
  simp
theorem told_of {l : List S35} {t : CT} {x : S35} (hx : x ∈ l) (hs : x.f1.f0 = 1 ∨ x.f1.f0 = 2 ∨ x.f1.f0 = 3) (hc : cmdB x t = true) : (l.any fun x => !nnB x && cmdB x t) = true := by
  rw [List.any_eq_true]
  refine ⟨x, hx, ?_⟩
  have hn : nnB x = false := by
    unfold nnB
    rcases hs with h | h | h <;> rw [h] <;> rfl
  rw [hn, hc]; rfl
theorem toList_nil : (⟨#[]⟩ : ByteArray).toList = [] := by kernel_rfl
theorem finF_true (n o : Int) (l : List S35) : finF n (chooseP n o (countP n l)) ((l.filter nnB).length : Int) (l.any fun x => !nnB x && cmdB x (chooseP n o (countP n l))) = true := by
  have hmem : ∀ x ∈ countP n l, x ∈ l := fun x hx => (count_mem hx).1
  obtain ⟨c, hc⟩ : ∃ c, countP n l = c := ⟨_, rfl⟩
  have told1 : ∀ (x : S35) (k : Int), x ∈ c → (x.f1.f0 = 1 ∨ x.f1.f0 = 2 ∨ x.f1.f0 = 3) → chooseP n o c = t9 (take10 x.f1 k) → (k ≠ 4) → finF n (chooseP n o c) ((l.filter nnB).length : Int) (l.any fun x => !nnB x && cmdB x (chooseP n o c)) = true := by
    intro x k hx hs e hk
    rw [e]
    unfold finF
    rw [if_neg (show ¬ (t9 (take10 x.f1 k)).1 = 4 from hk), told_of (hmem x (hc ▸ hx)) hs (cmd_self _ _ x rfl)]
    split <;> rfl
  rw [hc]
  by_cases h0 : tb (try0 c) = true
  · obtain ⟨x, hx, hs, e⟩ := try0_mem h0
    exact told1 x 1 hx (.inr (.inr hs)) (by rw [choose_eq, if_pos h0, e]) (by decide)
  by_cases h1 : tb (try1 n c) = true
  · have : chooseP n o c = t9 (try1 n c) := by rw [choose_eq, if_neg h0, if_pos h1]
    rw [this]; rfl
  have hq : ¬ (c.length : Int) < quorumP n := fun h => h1 (decide_eq_true h)
  have hpos := quorumP_pos n
  by_cases h2 : tb (try2 c) = true
  · obtain ⟨x, hx, hs, e⟩ := try2_mem h2
    exact told1 x 2 hx (.inr (.inl hs)) (by rw [choose_eq, if_neg h0, if_neg h1, if_pos h2, e]) (by decide)
  by_cases h3 : tb (try3 o c) = true
  · have h3' := h3
    rw [try3_tb] at h3'
    have hx := rd0_mem (c := c) (by omega)
    have := not_odd ((sameAll_iff o c).1 h3' _ hx)
    exact told1 _ 2 hx (.inl this.1) (by rw [choose_eq, if_neg h0, if_neg h1, if_neg h2, if_pos h3]; unfold try3; rw [if_pos h3']) (by decide)
  by_cases h4 : tb (try4 c) = true
  · obtain ⟨x, hx, e, hs⟩ := best_some (show (bestP c 1).1 = true from h4)
    have hch : chooseP n o c = t9 (try4 c) := by rw [choose_eq, if_neg h0, if_neg h1, if_neg h2, if_neg h3, if_pos h4]
    rw [hch]
    unfold finF
    rw [if_neg (show ¬ (t9 (try4 c)).1 = 4 from by show ¬ (3 : Int) = 4; decide), if_neg (show ¬ (t9 (try4 c)).1 = 0 from by show ¬ (3 : Int) = 0; decide)]
    refine told_of (hmem x (hc ▸ hx)) (.inl hs) ?_
    unfold cmdB try4 t9
    rw [e]
    simp
  have hch : chooseP n o c = (4, 0, 0, 0, 0, 0, ⟨#[]⟩, 0, []) := by rw [choose_eq, if_neg h0, if_neg h1, if_neg h2, if_neg h3, if_neg h4]
  rw [hch]
  have hb1 : (bestP c 1).1 = false := by
    cases hb : (bestP c 1).1 with
    | false => rfl
    | true => exact absurd (show tb (try4 c) = true from hb) h4
  have hb2 : (bestP c 2).1 = false := by
    cases hb : (bestP c 2).1 with
    | false => rfl
    | true =>
      refine absurd ?_ h2
      unfold try2
      rw [if_pos hb, if_neg (by rw [hb1]; decide)]
      rfl
  have h03 : ∀ x ∈ c, x.f1.f0 ≠ 3 := fun x hx e => h0 (by rw [try0_tb, List.any_eq_true]; exact ⟨x, hx, by rw [e]; rfl⟩)
  have hall : c.filter nnB = c := List.filter_eq_self.2 fun x hx => by
    unfold nnB
    rw [beq_eq_false_iff_ne.2 (best_none hb1 x hx), beq_eq_false_iff_ne.2 (best_none hb2 x hx), beq_eq_false_iff_ne.2 (h03 x hx)]; rfl
  have hle := count_le nnB l (manyP n)
  rw [← count_eq, hc, hall] at hle
  unfold finF
  rw [if_pos rfl, if_pos (by omega)]
  dsimp only
  rw [toList_nil]
  rfl
theorem RegainFills.pure (n o : Int) (l : List S35) : ∃ k, colloquylaw10_RegainFills.f k n o l = some true := by
  suffices h : Ev (fun k => colloquylaw10_RegainFills.f k n o l) true from h.rounds
  unfold colloquylaw10_RegainFills.f
  rw [awake_true]
  simp only [Option.bind_some, if_true]
  refine Ev.bind (f := fun k t => colloquylaw10_RegainFills.j0 k n o l true (!t)) (few_ev l) ?_
  cases hf : fewB l with
  | false => exact Ev.step (f := fun _ => some true) (fun k => by simp only [colloquylaw10_RegainFills.j0]; rw [if_pos (show (!false) = true from rfl)]) (Ev.now _)
  | true =>
    obtain ⟨hl, hs⟩ := (fewB_iff l).1 hf
    have := fills_l0 n l hl (chooseP n o (countP n l)) l.length 0 0 false (by omega) (by omega) (by omega)
    rw [List.drop_zero, Bool.false_or, Nat.zero_add, finF_true] at this
    refine Ev.step (fun k => ?_) this
    simp only [colloquylaw10_RegainFills.j0]
    rw [if_neg (by decide), Decide_some n o l (fun x hx => Nat.le_trans (hs x hx) (by decide))]
    rfl
end Go.Proofs.Ytomgiaakhpemaaa.P
