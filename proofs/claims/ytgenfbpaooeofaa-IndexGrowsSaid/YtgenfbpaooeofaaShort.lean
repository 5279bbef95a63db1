/- Small lemmas that make the printed walks short; no condition but each one's own. -/
import Derived.Test.YtgenfbpaooeofaaWWords
import Derived.Test.YtgenfbpaooeofaaWN
import Derived.Test.YtgenfbpaooeofaaWMore
namespace Go.Proofs.YtgenfbpaooeofaaW.PrintWords
open Go.RowKit
set_option linter.unusedVariables false
theorem blk_cells2 {w : World} {g : Nat} {t : TypeId} {v0 v1 : Value} (h : w.heap[g]? = some (.cells #[v0, v1] t (0, 0))) : w.cell? ⟨g, 0, none⟩ = some v0 ∧ w.cell? ⟨g, 1, none⟩ = some v1 := ⟨(blk_cell h 0).trans rfl, (blk_cell h 1).trans rfl⟩
theorem blk_frozens2 {w : World} {g : Nat} {t : TypeId} {cs : Array Value} (h : w.heap[g]? = some (.cells cs t (0, 0))) : w.frozen? ⟨g, 0, none⟩ = false ∧ w.frozen? ⟨g, 1, none⟩ = false := ⟨blk_frozen h 0, blk_frozen h 1⟩
theorem blk_cells3 {w : World} {g : Nat} {t : TypeId} {v0 v1 v2 : Value} (h : w.heap[g]? = some (.cells #[v0, v1, v2] t (0, 0))) : w.cell? ⟨g, 0, none⟩ = some v0 ∧ w.cell? ⟨g, 1, none⟩ = some v1 ∧ w.cell? ⟨g, 2, none⟩ = some v2 := ⟨(blk_cell h 0).trans rfl, (blk_cell h 1).trans rfl, (blk_cell h 2).trans rfl⟩
theorem blk_frozens3 {w : World} {g : Nat} {t : TypeId} {cs : Array Value} (h : w.heap[g]? = some (.cells cs t (0, 0))) : w.frozen? ⟨g, 0, none⟩ = false ∧ w.frozen? ⟨g, 1, none⟩ = false ∧ w.frozen? ⟨g, 2, none⟩ = false := ⟨blk_frozen h 0, blk_frozen h 1, blk_frozen h 2⟩
theorem blk_cells6 {w : World} {g : Nat} {t : TypeId} {v0 v1 v2 v3 v4 v5 : Value} (h : w.heap[g]? = some (.cells #[v0, v1, v2, v3, v4, v5] t (0, 0))) : w.cell? ⟨g, 0, none⟩ = some v0 ∧ w.cell? ⟨g, 1, none⟩ = some v1 ∧ w.cell? ⟨g, 2, none⟩ = some v2 ∧ w.cell? ⟨g, 3, none⟩ = some v3 ∧ w.cell? ⟨g, 4, none⟩ = some v4 ∧ w.cell? ⟨g, 5, none⟩ = some v5 := ⟨(blk_cell h 0).trans rfl, (blk_cell h 1).trans rfl, (blk_cell h 2).trans rfl, (blk_cell h 3).trans rfl, (blk_cell h 4).trans rfl, (blk_cell h 5).trans rfl⟩
theorem blk_frozens6 {w : World} {g : Nat} {t : TypeId} {cs : Array Value} (h : w.heap[g]? = some (.cells cs t (0, 0))) : w.frozen? ⟨g, 0, none⟩ = false ∧ w.frozen? ⟨g, 1, none⟩ = false ∧ w.frozen? ⟨g, 2, none⟩ = false ∧ w.frozen? ⟨g, 3, none⟩ = false ∧ w.frozen? ⟨g, 4, none⟩ = false ∧ w.frozen? ⟨g, 5, none⟩ = false := ⟨blk_frozen h 0, blk_frozen h 1, blk_frozen h 2, blk_frozen h 3, blk_frozen h 4, blk_frozen h 5⟩
theorem blk_cells9 {w : World} {g : Nat} {t : TypeId} {v0 v1 v2 v3 v4 v5 v6 v7 v8 : Value} (h : w.heap[g]? = some (.cells #[v0, v1, v2, v3, v4, v5, v6, v7, v8] t (0, 0))) : w.cell? ⟨g, 0, none⟩ = some v0 ∧ w.cell? ⟨g, 1, none⟩ = some v1 ∧ w.cell? ⟨g, 2, none⟩ = some v2 ∧ w.cell? ⟨g, 3, none⟩ = some v3 ∧ w.cell? ⟨g, 4, none⟩ = some v4 ∧ w.cell? ⟨g, 5, none⟩ = some v5 ∧ w.cell? ⟨g, 6, none⟩ = some v6 ∧ w.cell? ⟨g, 7, none⟩ = some v7 ∧ w.cell? ⟨g, 8, none⟩ = some v8 := ⟨(blk_cell h 0).trans rfl, (blk_cell h 1).trans rfl, (blk_cell h 2).trans rfl, (blk_cell h 3).trans rfl, (blk_cell h 4).trans rfl, (blk_cell h 5).trans rfl, (blk_cell h 6).trans rfl, (blk_cell h 7).trans rfl, (blk_cell h 8).trans rfl⟩
theorem blk_frozens9 {w : World} {g : Nat} {t : TypeId} {cs : Array Value} (h : w.heap[g]? = some (.cells cs t (0, 0))) : w.frozen? ⟨g, 0, none⟩ = false ∧ w.frozen? ⟨g, 1, none⟩ = false ∧ w.frozen? ⟨g, 2, none⟩ = false ∧ w.frozen? ⟨g, 3, none⟩ = false ∧ w.frozen? ⟨g, 4, none⟩ = false ∧ w.frozen? ⟨g, 5, none⟩ = false ∧ w.frozen? ⟨g, 6, none⟩ = false ∧ w.frozen? ⟨g, 7, none⟩ = false ∧ w.frozen? ⟨g, 8, none⟩ = false := ⟨blk_frozen h 0, blk_frozen h 1, blk_frozen h 2, blk_frozen h 3, blk_frozen h 4, blk_frozen h 5, blk_frozen h 6, blk_frozen h 7, blk_frozen h 8⟩
theorem blk_lt_ {w : World} {g n : Nat} {o : Obj} (hg : n = w.heap.size) (h : w.heap[g]? = some o) : g < n := by rw [hg]; exact blk_lt h
theorem step_size_ {w W w2 : World} {g : Nat} (h : Below w.heap.size w W) (k : Below W.heap.size W w2) (hg : g = W.heap.size) : Below w.heap.size w w2 ∧ w.heap.size ≤ g := ⟨below_step h k, by rw [hg]; exact below_size h⟩
/-- what lay in the one lies in the other as it lay -/
def Grows (w0 w : World) : Prop := ∀ (g : Nat) (o : Obj), w0.heap[g]? = some o → w.heap[g]? = some o
theorem Grows.refl (w : World) : Grows w w := fun _ _ h => h
theorem Grows.alloc {w0 w : World} (h : Grows w0 w) (o : Obj) : Grows w0 (w.alloc o) := fun g o' h' => blk_alloc (h g o' h') o
theorem Grows.drew {w0 w : World} (h : Grows w0 w) : Grows w0 w.drew := fun g o' h' => blk_drew (h g o' h')
theorem Grows.drewN {w0 w : World} (h : Grows w0 w) (n : Nat) : Grows w0 (w.drewN n) := fun g o' h' => blk_drewN (h g o' h') n
theorem bk {w0 w : World} {g : Nat} {o : Obj} (H : Aside0 (w0.heap[g]? = some o)) (h : Grows w0 w := by (with_reducible repeat (first | refine Grows.drewN ?_ _ | refine Grows.drew ?_ | refine Grows.alloc ?_ _)); exact Grows.refl _) : w.heap[g]? = some o := h g o H.out
theorem gw_ {w0 w1 w2 : World} (H : Aside0 (Below w0.heap.size w0 w1)) (h : Below w0.heap.size w0 w1 → Below w0.heap.size w0 w2 := by (intro h_; repeat (first | (with_reducible first | exact h_ | apply below_alloc | apply pw_below_drewN | apply below_drew1 | refine below_set ?_ (Aside0.out (by assumption))) | exact h_))) : Below w0.heap.size w0 w2 := h H.out
namespace Kd
theorem R_far2 {α : Type} {d : Kd α} {e : Nat} {w : World} {base : Nat} {ok : Nat → Prop} {v : Value} {xs : List α} {g : Nat} {v0 v1 : Value} (h : d.R e w base ok v xs) (hok : ∀ k, ok k → k ≠ g) : d.R e ((w.setCell ⟨g, 0, none⟩ v0).setCell ⟨g, 1, none⟩ v1) base ok v xs := (R_far (p := ⟨g, 1, none⟩) (R_far (p := ⟨g, 0, none⟩) h hok v0) hok v1)
theorem rk {α : Type} {d : Kd α} {e : Nat} {w0 w : World} {base : Nat} {ok : Nat → Prop} {v : Value} {xs : List α} (H : Aside0 (d.R e w0 base ok v xs)) (h : Below w0.heap.size w0 w := by (repeat (first | (with_reducible first | exact Below.refl _ _ | apply below_alloc | apply pw_below_drewN | apply below_drew1) | exact Below.refl _ _))) : d.R e w base ok v xs := R_below H.out h
end Kd
end Go.Proofs.YtgenfbpaooeofaaW.PrintWords
