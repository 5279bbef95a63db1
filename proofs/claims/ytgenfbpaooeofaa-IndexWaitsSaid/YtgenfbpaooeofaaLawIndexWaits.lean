/- The plain side of the law IndexWaits. No condition but each theorem's own. -/
import Derived.Test.YtgenfbpaooeofaaPx0
import Derived.Test.YtgenfbpaooeofaaPx4
import Derived.Test.YtgenfbpaooeofaaPx5
import Derived.Test.YtgenfbpaooeofaaPx10
import Derived.Test.YtgenfbpaooeofaaIdxD
import Derived.Test.YtgenfbpaooeofaaWkWaits
namespace Go.Proofs.Ytgenfbpaooeofaa.P
open Go.RowKit Go.Proofs.YtgenfbpaooeofaaW.PrintWords Go.Proofs.YtgenfbpaooeofaaW.PrintLast Go.Proofs.YtgenfbpaooeofaaW.PrintMore
set_option linter.unusedVariables false
set_option linter.unusedSimpArgs false
theorem meet_both (x y : S57) : meetB x y = meetB y x := by
  unfold meetB
  rw [Bool.eq_iff_iff]
  simp only [Bool.and_eq_true, Bool.or_eq_true, beq_iff_eq, decide_eq_true_eq]
  constructor
  · rintro ⟨⟨h1, h2⟩, h3⟩; exact ⟨⟨h1.symm, h2.symm⟩, h3.symm⟩
  · rintro ⟨⟨h1, h2⟩, h3⟩; exact ⟨⟨h1.symm, h2.symm⟩, h3.symm⟩
theorem inter_both (c d : S24) (h : interK c d = true) : interK d c = true := by
  unfold interK at h ⊢
  simp only [List.any_eq_true] at h ⊢
  obtain ⟨x, hx, y, hy, h⟩ := h
  exact ⟨y, hy, x, hx, by rw [meet_both]; exact h⟩
theorem putB_inv (m : Int) (i0 : S26) : ∀ (l : List S29) (s : Ixs), SInv m s → (∀ i k, M.get s.1 i = some k → k.f2 ≤ 1099511627776) → (∀ k ∈ l, k.f2 ≤ 1099511627776) → SInv m (l.foldl (putB m i0) s) ∧ ∀ i k, M.get (l.foldl (putB m i0) s).1 i = some k → k.f2 ≤ 1099511627776
  | [], s, h, hs, _ => ⟨h, hs⟩
  | y :: l, s, h, hs, hl => by
    rw [List.foldl_cons]
    unfold putB
    by_cases e : y.f0 = i0
    · rw [if_pos e]
      exact putB_inv m i0 l s h hs (fun k hk => hl k (by simp [hk]))
    · rw [if_neg e]
      refine putB_inv m i0 l _ (h.put y) (fun i k hk => ?_) (fun k hk => hl k (by simp [hk]))
      rw [get_putS] at hk
      split at hk
      · have := Option.some.inj hk
        subst this
        exact hl _ (by simp)
      · exact hs i k hk
theorem IndexWaits.law (l : List S29) (a : S29) (c : S24) (sf : S26) (n : Int) (w : World) (A0 : Option Addr) (c0 : Nat) (hr0 : Kd.C k29 w A0 l.length l) (hc0 : l.length ≤ c0) :
    Calls Try.prog 7 #[.slice A0 l.length c0, knV a, .agg #[.int .i64 c.f0, .int .i64 c.f1, .int .i64 c.f2, .int .i64 c.f3, .int .i64 c.f4, .string c.f5], insV sf, .int .i64 n] w fun e w' => e = .returned (.bool true) ∧ Below w.heap.size w w' := by
  refine IndexWaits.calls A0 c0 l a c sf n w hr0 hc0 (fun hl hm hsf hin hseq => ?_)
  have hb := bnd_in n
  obtain ⟨h0, hq0⟩ := putB_inv (bnd n) a.f0 l ix0 (SInv.zero _) (fun i k h => by simp [ix0, M.get] at h) hl
  have hX := h0.put a
  have hXq : ∀ i k, M.get (putS (bnd n) (l.foldl (putB (bnd n) a.f0) ix0) a).1 i = some k → k.f2 ≤ 1099511627776 := fun i k hk => by
    rw [get_putS] at hk
    split at hk
    · have := Option.some.inj hk
      subst this
      exact hseq
    · exact hq0 i k hk
  have hget : M.get (putS (bnd n) (l.foldl (putB (bnd n) a.f0) ix0) a).1 a.f0 = some a := by rw [get_putS, if_pos ⟨hm, rfl⟩]
  generalize putS (bnd n) (l.foldl (putB (bnd n) a.f0) ix0) a = X at hX hXq hget
  have hmem : (a.f0, a.f2) ∈ (kOf c).flatMap (rowsOf X.2) := (hX.rows c _).2 ⟨a, hget, rfl, inter_both _ _ hin⟩
  have hbnd : 1 ≤ a.f0.f0 ∧ a.f0.f0 ≤ bnd n ∧ 1 ≤ a.f0.f1 := by
    unfold mayI at hm
    simp only [Bool.and_eq_true, decide_eq_true_eq] at hm
    exact ⟨hm.1.1.1, hm.1.1.2, hm.1.2⟩
  obtain ⟨F, hF⟩ : ∃ F, foldA sf (bnd n) X.2 (kOf c) = F := ⟨_, rfl⟩
  have hat : attrP (bnd n) X.2 c sf = (wrap64 (F.1 + 1), F.2) := by unfold attrP; rw [hF]
  have hlen : F.2.length = (bnd n).toNat := by
    rw [← hF]; unfold foldA; rw [step_len]; simp
  unfold foldA at hF
  have s1 := (fold_seq sf F.1 _ (0, List.replicate (bnd n).toNat 0)).1 (by rw [hF]; exact Int.le_refl _)
  have s2 := (fold_seq sf 1099511627776 ((kOf c).flatMap (rowsOf X.2)) (0, List.replicate (bnd n).toNat 0)).2 ⟨by (show (0 : Int) ≤ 1099511627776); decide, fun q hq _ => by
    obtain ⟨k, g1, g2, _⟩ := (hX.rows c q).1 hq
    rw [g2]
    exact hXq _ k g1⟩
  rw [hF] at s2
  have s3 : a.f2 ≤ F.1 := s1.2 _ hmem hsf
  have s4 : (0 : Int) ≤ F.1 := s1.1
  obtain ⟨j, hj⟩ : ∃ j : Nat, (a.f0.f0 - 1).toNat = j := ⟨_, rfl⟩
  have hjl : j < (bnd n).toNat := by omega
  have d1 := ((fold_dep sf j (F.2.getD j 0) _ (0, List.replicate (bnd n).toNat 0) (by simpa using hjl)).1 (by rw [hF]; exact Int.le_refl _)).2 _ hmem hsf hj
  have hw : wrap64 (F.1 + 1) = F.1 + 1 := by unfold wrap64; omega
  rw [hat, hw]
  refine ⟨?_, by show a.f2 < F.1 + 1; omega⟩
  unfold attr_Waits.f attr_deps_of.f
  dsimp only
  have hwb : wrap64 (a.f0.f0 - 1) = a.f0.f0 - 1 := by unfold wrap64; omega
  rw [if_pos (by omega), if_neg (by omega), if_neg (by omega), hwb, if_pos (by omega), if_pos (by omega)]
  show some (decide (a.f0.f1 ≤ rd F.2 (a.f0.f0 - 1))) = some true
  congr 1
  apply decide_eq_true
  unfold rd
  rw [hj]
  exact d1
end Go.Proofs.Ytgenfbpaooeofaa.P
