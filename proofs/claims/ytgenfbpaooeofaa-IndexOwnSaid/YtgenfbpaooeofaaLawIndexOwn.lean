/- The plain side of the law IndexOwn. No condition but each theorem's own. -/
import Derived.Test.YtgenfbpaooeofaaPx0
import Derived.Test.YtgenfbpaooeofaaPx5
import Derived.Test.YtgenfbpaooeofaaIdxD
import Derived.Test.YtgenfbpaooeofaaWkOwn
namespace Go.Proofs.Ytgenfbpaooeofaa.P
open Go.RowKit Go.Proofs.YtgenfbpaooeofaaW.PrintWords Go.Proofs.YtgenfbpaooeofaaW.PrintLast Go.Proofs.YtgenfbpaooeofaaW.PrintMore
set_option linter.unusedVariables false
set_option linter.unusedSimpArgs false
theorem get_fold (m : Int) : ∀ (l : List S29) (s : Ixs) (i : S26) (k : S29), l.Pairwise (fun a b => a.f0 ≠ b.f0) → (M.get (l.foldl (putS m) s).1 i = some k ↔ (mayI m i = true ∧ k ∈ l ∧ k.f0 = i) ∨ ((mayI m i = true → ∀ x ∈ l, x.f0 ≠ i) ∧ M.get s.1 i = some k))
  | [], s, i, k, _ => by simp
  | y :: l, s, i, k, h => by
    rw [List.pairwise_cons] at h
    rw [List.foldl_cons, get_fold m l _ i k h.2, get_putS]
    by_cases e : mayI m y.f0 = true ∧ i = y.f0
    · rw [if_pos e]
      obtain ⟨e1, rfl⟩ := e
      constructor
      · rintro (⟨h1, h2, h3⟩ | ⟨h1, h2⟩)
        · exact Or.inl ⟨h1, List.mem_cons_of_mem _ h2, h3⟩
        · have := Option.some.inj h2
          subst this
          exact Or.inl ⟨e1, List.mem_cons_self, rfl⟩
      · rintro (⟨h1, h2, h3⟩ | ⟨h1, h2⟩)
        · rcases List.mem_cons.1 h2 with rfl | h2
          · exact Or.inr ⟨fun _ x hx => (h.1 x hx).symm, rfl⟩
          · exact Or.inl ⟨h1, h2, h3⟩
        · exact absurd rfl (h1 e1 y List.mem_cons_self)
    · rw [if_neg e]
      constructor
      · rintro (⟨h1, h2, h3⟩ | ⟨h1, h2⟩)
        · exact Or.inl ⟨h1, List.mem_cons_of_mem _ h2, h3⟩
        · refine Or.inr ⟨fun hm x hx => ?_, h2⟩
          rcases List.mem_cons.1 hx with rfl | hx
          · exact fun q => e ⟨by rw [q]; exact hm, q.symm⟩
          · exact h1 hm x hx
      · rintro (⟨h1, h2, h3⟩ | ⟨h1, h2⟩)
        · rcases List.mem_cons.1 h2 with rfl | h2
          · exact absurd ⟨by rw [h3]; exact h1, h3.symm⟩ e
          · exact Or.inl ⟨h1, h2, h3⟩
        · exact Or.inr ⟨fun hm x hx => h1 hm x (List.mem_cons_of_mem _ hx), h2⟩
theorem IndexOwn.law (l : List S29) (c : S24) (sf : S26) (n : Int) (b : S29) (w : World) (A0 : Option Addr) (c0 : Nat) (hr0 : Kd.C k29 w A0 l.length l) (hc0 : l.length ≤ c0) :
    Calls Try.prog 5 #[.slice A0 l.length c0, .agg #[.int .i64 c.f0, .int .i64 c.f1, .int .i64 c.f2, .int .i64 c.f3, .int .i64 c.f4, .string c.f5], insV sf, .int .i64 n, knV b] w fun e w' => e = .returned (.bool true) ∧ Below w.heap.size w w' := by
  refine IndexOwn.calls A0 c0 l c sf n b w hr0 hc0 (fun _ _ hsf hne => ?_)
  have hX := SInv.puts l (SInv.put (SInv.zero (bnd n)) (ofSelf sf b))
  have hY := SInv.puts l.reverse (SInv.zero (bnd n))
  have hp : l.Pairwise (fun a b => a.f0 ≠ b.f0) := List.pairwise_iff_getElem.2 (fun i j hi hj hij => hne j i hj hij)
  have hq : l.reverse.Pairwise (fun a b => a.f0 ≠ b.f0) := List.pairwise_reverse.2 (hp.imp (fun h => h.symm))
  have z : ∀ (i : S26), M.get ix0.1 i = none := fun i => rfl
  rw [hX.attr hY c sf (fun i hi => by
    apply Option.ext
    intro k
    rw [get_fold (bnd n) l _ i k hp, get_fold (bnd n) l.reverse _ i k hq, get_putS, if_neg (fun q => hi q.2), z]
    simp)]
  exact sm_refl _ _
end Go.Proofs.Ytgenfbpaooeofaa.P
