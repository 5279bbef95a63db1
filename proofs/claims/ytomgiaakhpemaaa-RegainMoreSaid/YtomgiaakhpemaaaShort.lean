/- Small lemmas that make the printed walks short; no condition but each one's own. -/
import Derived.Test.YtomgiaakhpemaaaWWords
import Derived.Test.YtomgiaakhpemaaaWN
import Derived.Test.YtomgiaakhpemaaaWMore
namespace Go.Proofs.YtomgiaakhpemaaaW.PrintWords
open Go.RowKit
set_option linter.unusedVariables false
theorem blk_put13 {w : World} {g : Nat} {t : TypeId} {cs : Array Value} {v0 v1 v2 v3 v4 v5 v6 v7 v8 v9 v10 v11 v12 : Value} (h : w.heap[g]? = some (.cells cs t (0, 0))) (hs : cs.size = 13) : (((((((((((((w.setCell ⟨g, 0, none⟩ v0).setCell ⟨g, 1, none⟩ v1).setCell ⟨g, 2, none⟩ v2).setCell ⟨g, 3, none⟩ v3).setCell ⟨g, 4, none⟩ v4).setCell ⟨g, 5, none⟩ v5).setCell ⟨g, 6, none⟩ v6).setCell ⟨g, 7, none⟩ v7).setCell ⟨g, 8, none⟩ v8).setCell ⟨g, 9, none⟩ v9).setCell ⟨g, 10, none⟩ v10).setCell ⟨g, 11, none⟩ v11).setCell ⟨g, 12, none⟩ v12).heap[g]? = some (.cells #[v0, v1, v2, v3, v4, v5, v6, v7, v8, v9, v10, v11, v12] t (0, 0)) := by
  obtain ⟨l⟩ := cs
  match l, hs, h with
  | [a0, a1, a2, a3, a4, a5, a6, a7, a8, a9, a10, a11, a12], _, h =>
    replace h := blk_put (cs' := #[v0, a1, a2, a3, a4, a5, a6, a7, a8, a9, a10, a11, a12]) h 0 v0 rfl
    replace h := blk_put (cs' := #[v0, v1, a2, a3, a4, a5, a6, a7, a8, a9, a10, a11, a12]) h 1 v1 rfl
    replace h := blk_put (cs' := #[v0, v1, v2, a3, a4, a5, a6, a7, a8, a9, a10, a11, a12]) h 2 v2 rfl
    replace h := blk_put (cs' := #[v0, v1, v2, v3, a4, a5, a6, a7, a8, a9, a10, a11, a12]) h 3 v3 rfl
    replace h := blk_put (cs' := #[v0, v1, v2, v3, v4, a5, a6, a7, a8, a9, a10, a11, a12]) h 4 v4 rfl
    replace h := blk_put (cs' := #[v0, v1, v2, v3, v4, v5, a6, a7, a8, a9, a10, a11, a12]) h 5 v5 rfl
    replace h := blk_put (cs' := #[v0, v1, v2, v3, v4, v5, v6, a7, a8, a9, a10, a11, a12]) h 6 v6 rfl
    replace h := blk_put (cs' := #[v0, v1, v2, v3, v4, v5, v6, v7, a8, a9, a10, a11, a12]) h 7 v7 rfl
    replace h := blk_put (cs' := #[v0, v1, v2, v3, v4, v5, v6, v7, v8, a9, a10, a11, a12]) h 8 v8 rfl
    replace h := blk_put (cs' := #[v0, v1, v2, v3, v4, v5, v6, v7, v8, v9, a10, a11, a12]) h 9 v9 rfl
    replace h := blk_put (cs' := #[v0, v1, v2, v3, v4, v5, v6, v7, v8, v9, v10, a11, a12]) h 10 v10 rfl
    replace h := blk_put (cs' := #[v0, v1, v2, v3, v4, v5, v6, v7, v8, v9, v10, v11, a12]) h 11 v11 rfl
    replace h := blk_put (cs' := #[v0, v1, v2, v3, v4, v5, v6, v7, v8, v9, v10, v11, v12]) h 12 v12 rfl
    exact h
theorem blk_put9 {w : World} {g : Nat} {t : TypeId} {cs : Array Value} {v0 v1 v2 v3 v4 v5 v6 v7 v8 : Value} (h : w.heap[g]? = some (.cells cs t (0, 0))) (hs : cs.size = 9) : (((((((((w.setCell ⟨g, 0, none⟩ v0).setCell ⟨g, 1, none⟩ v1).setCell ⟨g, 2, none⟩ v2).setCell ⟨g, 3, none⟩ v3).setCell ⟨g, 4, none⟩ v4).setCell ⟨g, 5, none⟩ v5).setCell ⟨g, 6, none⟩ v6).setCell ⟨g, 7, none⟩ v7).setCell ⟨g, 8, none⟩ v8).heap[g]? = some (.cells #[v0, v1, v2, v3, v4, v5, v6, v7, v8] t (0, 0)) := by
  obtain ⟨l⟩ := cs
  match l, hs, h with
  | [a0, a1, a2, a3, a4, a5, a6, a7, a8], _, h =>
    replace h := blk_put (cs' := #[v0, a1, a2, a3, a4, a5, a6, a7, a8]) h 0 v0 rfl
    replace h := blk_put (cs' := #[v0, v1, a2, a3, a4, a5, a6, a7, a8]) h 1 v1 rfl
    replace h := blk_put (cs' := #[v0, v1, v2, a3, a4, a5, a6, a7, a8]) h 2 v2 rfl
    replace h := blk_put (cs' := #[v0, v1, v2, v3, a4, a5, a6, a7, a8]) h 3 v3 rfl
    replace h := blk_put (cs' := #[v0, v1, v2, v3, v4, a5, a6, a7, a8]) h 4 v4 rfl
    replace h := blk_put (cs' := #[v0, v1, v2, v3, v4, v5, a6, a7, a8]) h 5 v5 rfl
    replace h := blk_put (cs' := #[v0, v1, v2, v3, v4, v5, v6, a7, a8]) h 6 v6 rfl
    replace h := blk_put (cs' := #[v0, v1, v2, v3, v4, v5, v6, v7, a8]) h 7 v7 rfl
    replace h := blk_put (cs' := #[v0, v1, v2, v3, v4, v5, v6, v7, v8]) h 8 v8 rfl
    exact h
theorem blk_put14 {w : World} {g : Nat} {t : TypeId} {cs : Array Value} {v0 v1 v2 v3 v4 v5 v6 v7 v8 v9 v10 v11 v12 v13 : Value} (h : w.heap[g]? = some (.cells cs t (0, 0))) (hs : cs.size = 14) : ((((((((((((((w.setCell ⟨g, 0, none⟩ v0).setCell ⟨g, 1, none⟩ v1).setCell ⟨g, 2, none⟩ v2).setCell ⟨g, 3, none⟩ v3).setCell ⟨g, 4, none⟩ v4).setCell ⟨g, 5, none⟩ v5).setCell ⟨g, 6, none⟩ v6).setCell ⟨g, 7, none⟩ v7).setCell ⟨g, 8, none⟩ v8).setCell ⟨g, 9, none⟩ v9).setCell ⟨g, 10, none⟩ v10).setCell ⟨g, 11, none⟩ v11).setCell ⟨g, 12, none⟩ v12).setCell ⟨g, 13, none⟩ v13).heap[g]? = some (.cells #[v0, v1, v2, v3, v4, v5, v6, v7, v8, v9, v10, v11, v12, v13] t (0, 0)) := by
  obtain ⟨l⟩ := cs
  match l, hs, h with
  | [a0, a1, a2, a3, a4, a5, a6, a7, a8, a9, a10, a11, a12, a13], _, h =>
    replace h := blk_put (cs' := #[v0, a1, a2, a3, a4, a5, a6, a7, a8, a9, a10, a11, a12, a13]) h 0 v0 rfl
    replace h := blk_put (cs' := #[v0, v1, a2, a3, a4, a5, a6, a7, a8, a9, a10, a11, a12, a13]) h 1 v1 rfl
    replace h := blk_put (cs' := #[v0, v1, v2, a3, a4, a5, a6, a7, a8, a9, a10, a11, a12, a13]) h 2 v2 rfl
    replace h := blk_put (cs' := #[v0, v1, v2, v3, a4, a5, a6, a7, a8, a9, a10, a11, a12, a13]) h 3 v3 rfl
    replace h := blk_put (cs' := #[v0, v1, v2, v3, v4, a5, a6, a7, a8, a9, a10, a11, a12, a13]) h 4 v4 rfl
    replace h := blk_put (cs' := #[v0, v1, v2, v3, v4, v5, a6, a7, a8, a9, a10, a11, a12, a13]) h 5 v5 rfl
    replace h := blk_put (cs' := #[v0, v1, v2, v3, v4, v5, v6, a7, a8, a9, a10, a11, a12, a13]) h 6 v6 rfl
    replace h := blk_put (cs' := #[v0, v1, v2, v3, v4, v5, v6, v7, a8, a9, a10, a11, a12, a13]) h 7 v7 rfl
    replace h := blk_put (cs' := #[v0, v1, v2, v3, v4, v5, v6, v7, v8, a9, a10, a11, a12, a13]) h 8 v8 rfl
    replace h := blk_put (cs' := #[v0, v1, v2, v3, v4, v5, v6, v7, v8, v9, a10, a11, a12, a13]) h 9 v9 rfl
    replace h := blk_put (cs' := #[v0, v1, v2, v3, v4, v5, v6, v7, v8, v9, v10, a11, a12, a13]) h 10 v10 rfl
    replace h := blk_put (cs' := #[v0, v1, v2, v3, v4, v5, v6, v7, v8, v9, v10, v11, a12, a13]) h 11 v11 rfl
    replace h := blk_put (cs' := #[v0, v1, v2, v3, v4, v5, v6, v7, v8, v9, v10, v11, v12, a13]) h 12 v12 rfl
    replace h := blk_put (cs' := #[v0, v1, v2, v3, v4, v5, v6, v7, v8, v9, v10, v11, v12, v13]) h 13 v13 rfl
    exact h
theorem blk_cells2 {w : World} {g : Nat} {t : TypeId} {v0 v1 : Value} (h : w.heap[g]? = some (.cells #[v0, v1] t (0, 0))) : w.cell? ⟨g, 0, none⟩ = some v0 ∧ w.cell? ⟨g, 1, none⟩ = some v1 := ⟨(blk_cell h 0).trans rfl, (blk_cell h 1).trans rfl⟩
theorem blk_frozens2 {w : World} {g : Nat} {t : TypeId} {cs : Array Value} (h : w.heap[g]? = some (.cells cs t (0, 0))) : w.frozen? ⟨g, 0, none⟩ = false ∧ w.frozen? ⟨g, 1, none⟩ = false := ⟨blk_frozen h 0, blk_frozen h 1⟩
theorem blk_frozens8 {w : World} {g : Nat} {t : TypeId} {cs : Array Value} (h : w.heap[g]? = some (.cells cs t (0, 0))) : w.frozen? ⟨g, 0, none⟩ = false ∧ w.frozen? ⟨g, 1, none⟩ = false ∧ w.frozen? ⟨g, 2, none⟩ = false ∧ w.frozen? ⟨g, 3, none⟩ = false ∧ w.frozen? ⟨g, 4, none⟩ = false ∧ w.frozen? ⟨g, 5, none⟩ = false ∧ w.frozen? ⟨g, 6, none⟩ = false ∧ w.frozen? ⟨g, 7, none⟩ = false := ⟨blk_frozen h 0, blk_frozen h 1, blk_frozen h 2, blk_frozen h 3, blk_frozen h 4, blk_frozen h 5, blk_frozen h 6, blk_frozen h 7⟩
theorem blk_cells9 {w : World} {g : Nat} {t : TypeId} {v0 v1 v2 v3 v4 v5 v6 v7 v8 : Value} (h : w.heap[g]? = some (.cells #[v0, v1, v2, v3, v4, v5, v6, v7, v8] t (0, 0))) : w.cell? ⟨g, 0, none⟩ = some v0 ∧ w.cell? ⟨g, 1, none⟩ = some v1 ∧ w.cell? ⟨g, 2, none⟩ = some v2 ∧ w.cell? ⟨g, 3, none⟩ = some v3 ∧ w.cell? ⟨g, 4, none⟩ = some v4 ∧ w.cell? ⟨g, 5, none⟩ = some v5 ∧ w.cell? ⟨g, 6, none⟩ = some v6 ∧ w.cell? ⟨g, 7, none⟩ = some v7 ∧ w.cell? ⟨g, 8, none⟩ = some v8 := ⟨(blk_cell h 0).trans rfl, (blk_cell h 1).trans rfl, (blk_cell h 2).trans rfl, (blk_cell h 3).trans rfl, (blk_cell h 4).trans rfl, (blk_cell h 5).trans rfl, (blk_cell h 6).trans rfl, (blk_cell h 7).trans rfl, (blk_cell h 8).trans rfl⟩
theorem blk_frozens9 {w : World} {g : Nat} {t : TypeId} {cs : Array Value} (h : w.heap[g]? = some (.cells cs t (0, 0))) : w.frozen? ⟨g, 0, none⟩ = false ∧ w.frozen? ⟨g, 1, none⟩ = false ∧ w.frozen? ⟨g, 2, none⟩ = false ∧ w.frozen? ⟨g, 3, none⟩ = false ∧ w.frozen? ⟨g, 4, none⟩ = false ∧ w.frozen? ⟨g, 5, none⟩ = false ∧ w.frozen? ⟨g, 6, none⟩ = false ∧ w.frozen? ⟨g, 7, none⟩ = false ∧ w.frozen? ⟨g, 8, none⟩ = false := ⟨blk_frozen h 0, blk_frozen h 1, blk_frozen h 2, blk_frozen h 3, blk_frozen h 4, blk_frozen h 5, blk_frozen h 6, blk_frozen h 7, blk_frozen h 8⟩
theorem blk_cells13 {w : World} {g : Nat} {t : TypeId} {v0 v1 v2 v3 v4 v5 v6 v7 v8 v9 v10 v11 v12 : Value} (h : w.heap[g]? = some (.cells #[v0, v1, v2, v3, v4, v5, v6, v7, v8, v9, v10, v11, v12] t (0, 0))) : w.cell? ⟨g, 0, none⟩ = some v0 ∧ w.cell? ⟨g, 1, none⟩ = some v1 ∧ w.cell? ⟨g, 2, none⟩ = some v2 ∧ w.cell? ⟨g, 3, none⟩ = some v3 ∧ w.cell? ⟨g, 4, none⟩ = some v4 ∧ w.cell? ⟨g, 5, none⟩ = some v5 ∧ w.cell? ⟨g, 6, none⟩ = some v6 ∧ w.cell? ⟨g, 7, none⟩ = some v7 ∧ w.cell? ⟨g, 8, none⟩ = some v8 ∧ w.cell? ⟨g, 9, none⟩ = some v9 ∧ w.cell? ⟨g, 10, none⟩ = some v10 ∧ w.cell? ⟨g, 11, none⟩ = some v11 ∧ w.cell? ⟨g, 12, none⟩ = some v12 := ⟨(blk_cell h 0).trans rfl, (blk_cell h 1).trans rfl, (blk_cell h 2).trans rfl, (blk_cell h 3).trans rfl, (blk_cell h 4).trans rfl, (blk_cell h 5).trans rfl, (blk_cell h 6).trans rfl, (blk_cell h 7).trans rfl, (blk_cell h 8).trans rfl, (blk_cell h 9).trans rfl, (blk_cell h 10).trans rfl, (blk_cell h 11).trans rfl, (blk_cell h 12).trans rfl⟩
theorem blk_frozens13 {w : World} {g : Nat} {t : TypeId} {cs : Array Value} (h : w.heap[g]? = some (.cells cs t (0, 0))) : w.frozen? ⟨g, 0, none⟩ = false ∧ w.frozen? ⟨g, 1, none⟩ = false ∧ w.frozen? ⟨g, 2, none⟩ = false ∧ w.frozen? ⟨g, 3, none⟩ = false ∧ w.frozen? ⟨g, 4, none⟩ = false ∧ w.frozen? ⟨g, 5, none⟩ = false ∧ w.frozen? ⟨g, 6, none⟩ = false ∧ w.frozen? ⟨g, 7, none⟩ = false ∧ w.frozen? ⟨g, 8, none⟩ = false ∧ w.frozen? ⟨g, 9, none⟩ = false ∧ w.frozen? ⟨g, 10, none⟩ = false ∧ w.frozen? ⟨g, 11, none⟩ = false ∧ w.frozen? ⟨g, 12, none⟩ = false := ⟨blk_frozen h 0, blk_frozen h 1, blk_frozen h 2, blk_frozen h 3, blk_frozen h 4, blk_frozen h 5, blk_frozen h 6, blk_frozen h 7, blk_frozen h 8, blk_frozen h 9, blk_frozen h 10, blk_frozen h 11, blk_frozen h 12⟩
theorem blk_cells14 {w : World} {g : Nat} {t : TypeId} {v0 v1 v2 v3 v4 v5 v6 v7 v8 v9 v10 v11 v12 v13 : Value} (h : w.heap[g]? = some (.cells #[v0, v1, v2, v3, v4, v5, v6, v7, v8, v9, v10, v11, v12, v13] t (0, 0))) : w.cell? ⟨g, 0, none⟩ = some v0 ∧ w.cell? ⟨g, 1, none⟩ = some v1 ∧ w.cell? ⟨g, 2, none⟩ = some v2 ∧ w.cell? ⟨g, 3, none⟩ = some v3 ∧ w.cell? ⟨g, 4, none⟩ = some v4 ∧ w.cell? ⟨g, 5, none⟩ = some v5 ∧ w.cell? ⟨g, 6, none⟩ = some v6 ∧ w.cell? ⟨g, 7, none⟩ = some v7 ∧ w.cell? ⟨g, 8, none⟩ = some v8 ∧ w.cell? ⟨g, 9, none⟩ = some v9 ∧ w.cell? ⟨g, 10, none⟩ = some v10 ∧ w.cell? ⟨g, 11, none⟩ = some v11 ∧ w.cell? ⟨g, 12, none⟩ = some v12 ∧ w.cell? ⟨g, 13, none⟩ = some v13 := ⟨(blk_cell h 0).trans rfl, (blk_cell h 1).trans rfl, (blk_cell h 2).trans rfl, (blk_cell h 3).trans rfl, (blk_cell h 4).trans rfl, (blk_cell h 5).trans rfl, (blk_cell h 6).trans rfl, (blk_cell h 7).trans rfl, (blk_cell h 8).trans rfl, (blk_cell h 9).trans rfl, (blk_cell h 10).trans rfl, (blk_cell h 11).trans rfl, (blk_cell h 12).trans rfl, (blk_cell h 13).trans rfl⟩
theorem blk_frozens14 {w : World} {g : Nat} {t : TypeId} {cs : Array Value} (h : w.heap[g]? = some (.cells cs t (0, 0))) : w.frozen? ⟨g, 0, none⟩ = false ∧ w.frozen? ⟨g, 1, none⟩ = false ∧ w.frozen? ⟨g, 2, none⟩ = false ∧ w.frozen? ⟨g, 3, none⟩ = false ∧ w.frozen? ⟨g, 4, none⟩ = false ∧ w.frozen? ⟨g, 5, none⟩ = false ∧ w.frozen? ⟨g, 6, none⟩ = false ∧ w.frozen? ⟨g, 7, none⟩ = false ∧ w.frozen? ⟨g, 8, none⟩ = false ∧ w.frozen? ⟨g, 9, none⟩ = false ∧ w.frozen? ⟨g, 10, none⟩ = false ∧ w.frozen? ⟨g, 11, none⟩ = false ∧ w.frozen? ⟨g, 12, none⟩ = false ∧ w.frozen? ⟨g, 13, none⟩ = false := ⟨blk_frozen h 0, blk_frozen h 1, blk_frozen h 2, blk_frozen h 3, blk_frozen h 4, blk_frozen h 5, blk_frozen h 6, blk_frozen h 7, blk_frozen h 8, blk_frozen h 9, blk_frozen h 10, blk_frozen h 11, blk_frozen h 12, blk_frozen h 13⟩
theorem blk_lt_ {w : World} {g n : Nat} {o : Obj} (hg : n = w.heap.size) (h : w.heap[g]? = some o) : g < n := by rw [hg]; exact blk_lt h
theorem step_size_ {w W w2 : World} {g : Nat} (h : Below w.heap.size w W) (k : Below W.heap.size W w2) (hg : g = W.heap.size) : Below w.heap.size w w2 ∧ w.heap.size ≤ g := ⟨below_step h k, by rw [hg]; exact below_size h⟩
/-- what lay in the one lies in the other as it lay -/
def Grows (w0 w : World) : Prop := ∀ (g : Nat) (o : Obj), w0.heap[g]? = some o → w.heap[g]? = some o
theorem Grows.refl (w : World) : Grows w w := fun _ _ h => h
theorem Grows.alloc {w0 w : World} (h : Grows w0 w) (o : Obj) : Grows w0 (w.alloc o) := fun g o' h' => blk_alloc (h g o' h') o
theorem Grows.drew {w0 w : World} (h : Grows w0 w) : Grows w0 w.drew := fun g o' h' => blk_drew (h g o' h')
theorem Grows.drewN {w0 w : World} (h : Grows w0 w) (n : Nat) : Grows w0 (w.drewN n) := fun g o' h' => blk_drewN (h g o' h') n
theorem bk {w0 w : World} {g : Nat} {o : Obj} (H : Aside0 (w0.heap[g]? = some o)) (h : Grows w0 w := by (with_reducible repeat (first | refine Grows.drewN ?_ _ | refine Grows.drew ?_ | refine Grows.alloc ?_ _)); exact Grows.refl _) : w.heap[g]? = some o := h g o H.out
theorem gw_ {w0 w1 w2 : World} (H : Aside0 (Below w0.heap.size w0 w1)) (h : Below w0.heap.size w0 w1 → Below w0.heap.size w0 w2 := by (intro h_; repeat (first | (with_reducible first | exact h_ | apply below_alloc | apply pw_below_drewN | apply below_drew1 | refine below_set ?_ (Aside0.out (by assumption))) | exact h_))) : Below w0.heap.size w0 w2 := h H.out
namespace Kd
theorem R_far9 {α : Type} {d : Kd α} {e : Nat} {w : World} {base : Nat} {ok : Nat → Prop} {v : Value} {xs : List α} {g : Nat} {v0 v1 v2 v3 v4 v5 v6 v7 v8 : Value} (h : d.R e w base ok v xs) (hok : ∀ k, ok k → k ≠ g) : d.R e (((((((((w.setCell ⟨g, 0, none⟩ v0).setCell ⟨g, 1, none⟩ v1).setCell ⟨g, 2, none⟩ v2).setCell ⟨g, 3, none⟩ v3).setCell ⟨g, 4, none⟩ v4).setCell ⟨g, 5, none⟩ v5).setCell ⟨g, 6, none⟩ v6).setCell ⟨g, 7, none⟩ v7).setCell ⟨g, 8, none⟩ v8) base ok v xs := (R_far (p := ⟨g, 8, none⟩) (R_far (p := ⟨g, 7, none⟩) (R_far (p := ⟨g, 6, none⟩) (R_far (p := ⟨g, 5, none⟩) (R_far (p := ⟨g, 4, none⟩) (R_far (p := ⟨g, 3, none⟩) (R_far (p := ⟨g, 2, none⟩) (R_far (p := ⟨g, 1, none⟩) (R_far (p := ⟨g, 0, none⟩) h hok v0) hok v1) hok v2) hok v3) hok v4) hok v5) hok v6) hok v7) hok v8)
theorem rk {α : Type} {d : Kd α} {e : Nat} {w0 w : World} {base : Nat} {ok : Nat → Prop} {v : Value} {xs : List α} (H : Aside0 (d.R e w0 base ok v xs)) (h : Below w0.heap.size w0 w := by (repeat (first | (with_reducible first | exact Below.refl _ _ | apply below_alloc | apply pw_below_drewN | apply below_drew1) | exact Below.refl _ _))) : d.R e w base ok v xs := R_below H.out h
theorem vk {α : Type} {d : Kd α} {e : Nat} {w0 w : World} {base : Nat} {ok : Nat → Prop} {v : Value} {xs : List α} (H : Aside0 (Kd.V d e w0 base ok v xs)) (h : Below w0.heap.size w0 w := by (repeat (first | (with_reducible first | exact Below.refl _ _ | apply below_alloc | apply pw_below_drewN | apply below_drew1) | exact Below.refl _ _))) : Kd.V d e w base ok v xs := V_below H.out h
theorem nk {α : Type} {d : Kd α} {e : Nat} {w0 w : World} {base : Nat} {ok : Nat → Prop} {v : Value} {xs : List α} (H : Aside0 (Kd.N d e w0 base ok v xs)) (h : Below w0.heap.size w0 w := by (repeat (first | (with_reducible first | exact Below.refl _ _ | apply below_alloc | apply pw_below_drewN | apply below_drew1) | exact Below.refl _ _))) : Kd.N d e w base ok v xs := N_below H.out h
end Kd
end Go.Proofs.YtomgiaakhpemaaaW.PrintWords
