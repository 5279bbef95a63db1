/- Small lemmas that make the printed walks short; no condition but each one's own. -/
import Derived.Test.YtkijkdifmoifaaaWWords
namespace Go.Proofs.YtkijkdifmoifaaaW.PrintWords
open Go.RowKit
set_option linter.unusedVariables false
theorem isEmpty_beq (l : List UInt8) : l.isEmpty = (l == []) := by cases l <;> rfl
theorem blk_put13 {w : World} {g : Nat} {t : TypeId} {cs : Array Value} {v0 v1 v2 v3 v4 v5 v6 v7 v8 v9 v10 v11 v12 : Value} (h : w.heap[g]? = some (.cells cs t (0, 0))) (hs : cs.size = 13) : (((((((((((((w.setCell ⟨g, 0, none⟩ v0).setCell ⟨g, 1, none⟩ v1).setCell ⟨g, 2, none⟩ v2).setCell ⟨g, 3, none⟩ v3).setCell ⟨g, 4, none⟩ v4).setCell ⟨g, 5, none⟩ v5).setCell ⟨g, 6, none⟩ v6).setCell ⟨g, 7, none⟩ v7).setCell ⟨g, 8, none⟩ v8).setCell ⟨g, 9, none⟩ v9).setCell ⟨g, 10, none⟩ v10).setCell ⟨g, 11, none⟩ v11).setCell ⟨g, 12, none⟩ v12).heap[g]? = some (.cells #[v0, v1, v2, v3, v4, v5, v6, v7, v8, v9, v10, v11, v12] t (0, 0)) := by
  obtain ⟨l⟩ := cs
  match l, hs, h with
  | [a0, a1, a2, a3, a4, a5, a6, a7, a8, a9, a10, a11, a12], _, h =>
    replace h := blk_put (cs' := #[v0, a1, a2, a3, a4, a5, a6, a7, a8, a9, a10, a11, a12]) h 0 v0 rfl
    replace h := blk_put (cs' := #[v0, v1, a2, a3, a4, a5, a6, a7, a8, a9, a10, a11, a12]) h 1 v1 rfl
    replace h := blk_put (cs' := #[v0, v1, v2, a3, a4, a5, a6, a7, a8, a9, a10, a11, a12]) h 2 v2 rfl
    replace h := blk_put (cs' := #[v0, v1, v2, v3, a4, a5, a6, a7, a8, a9, a10, a11, a12]) h 3 v3 rfl
    replace h := blk_put (cs' := #[v0, v1, v2, v3, v4, a5, a6, a7, a8, a9, a10, a11, a12]) h 4 v4 rfl
    replace h := blk_put (cs' := #[v0, v1, v2, v3, v4, v5, a6, a7, a8, a9, a10, a11, a12]) h 5 v5 rfl
    replace h := blk_put (cs' := #[v0, v1, v2, v3, v4, v5, v6, a7, a8, a9, a10, a11, a12]) h 6 v6 rfl
    replace h := blk_put (cs' := #[v0, v1, v2, v3, v4, v5, v6, v7, a8, a9, a10, a11, a12]) h 7 v7 rfl
    replace h := blk_put (cs' := #[v0, v1, v2, v3, v4, v5, v6, v7, v8, a9, a10, a11, a12]) h 8 v8 rfl
    replace h := blk_put (cs' := #[v0, v1, v2, v3, v4, v5, v6, v7, v8, v9, a10, a11, a12]) h 9 v9 rfl
    replace h := blk_put (cs' := #[v0, v1, v2, v3, v4, v5, v6, v7, v8, v9, v10, a11, a12]) h 10 v10 rfl
    replace h := blk_put (cs' := #[v0, v1, v2, v3, v4, v5, v6, v7, v8, v9, v10, v11, a12]) h 11 v11 rfl
    replace h := blk_put (cs' := #[v0, v1, v2, v3, v4, v5, v6, v7, v8, v9, v10, v11, v12]) h 12 v12 rfl
    exact h
namespace Kd
theorem R_far13 {α : Type} {d : Kd α} {e : Nat} {w : World} {base : Nat} {ok : Nat → Prop} {v : Value} {xs : List α} {g : Nat} {v0 v1 v2 v3 v4 v5 v6 v7 v8 v9 v10 v11 v12 : Value} (h : d.R e w base ok v xs) (hok : ∀ k, ok k → k ≠ g) : d.R e (((((((((((((w.setCell ⟨g, 0, none⟩ v0).setCell ⟨g, 1, none⟩ v1).setCell ⟨g, 2, none⟩ v2).setCell ⟨g, 3, none⟩ v3).setCell ⟨g, 4, none⟩ v4).setCell ⟨g, 5, none⟩ v5).setCell ⟨g, 6, none⟩ v6).setCell ⟨g, 7, none⟩ v7).setCell ⟨g, 8, none⟩ v8).setCell ⟨g, 9, none⟩ v9).setCell ⟨g, 10, none⟩ v10).setCell ⟨g, 11, none⟩ v11).setCell ⟨g, 12, none⟩ v12) base ok v xs := (R_far (p := ⟨g, 12, none⟩) (R_far (p := ⟨g, 11, none⟩) (R_far (p := ⟨g, 10, none⟩) (R_far (p := ⟨g, 9, none⟩) (R_far (p := ⟨g, 8, none⟩) (R_far (p := ⟨g, 7, none⟩) (R_far (p := ⟨g, 6, none⟩) (R_far (p := ⟨g, 5, none⟩) (R_far (p := ⟨g, 4, none⟩) (R_far (p := ⟨g, 3, none⟩) (R_far (p := ⟨g, 2, none⟩) (R_far (p := ⟨g, 1, none⟩) (R_far (p := ⟨g, 0, none⟩) h hok v0) hok v1) hok v2) hok v3) hok v4) hok v5) hok v6) hok v7) hok v8) hok v9) hok v10) hok v11) hok v12)
end Kd
end Go.Proofs.YtkijkdifmoifaaaW.PrintWords
