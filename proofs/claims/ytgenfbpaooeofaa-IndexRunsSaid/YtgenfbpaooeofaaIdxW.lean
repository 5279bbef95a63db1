/- Indexes that are put to, one behind the other: what of them stays. No condition but each theorem's own. -/
import Derived.Test.YtgenfbpaooeofaaPx0
import Derived.Test.YtgenfbpaooeofaaPx5
namespace Go.Proofs.Ytgenfbpaooeofaa.P
open Go.RowKit Go.Proofs.YtgenfbpaooeofaaW.PrintWords Go.Proofs.YtgenfbpaooeofaaW.PrintLast Go.Proofs.YtgenfbpaooeofaaW.PrintMore
set_option linter.unusedVariables false
set_option linter.unusedSimpArgs false
/-- what is known behind any that were put -/
abbrev Ixs := List (S26 × S29) × (S57 → List (S26 × Int))
def ix0 : Ixs := ([], fun _ => [])
def putS (m : Int) (s : Ixs) (k : S29) : Ixs := putP m s.1 s.2 k
theorem GB.putL {m : Int} : ∀ (l : List S29) {s : Ixs}, GB m s.2 → GB m (l.foldl (putS m) s).2
  | [], _, h => h
  | k :: l, s, h => by rw [List.foldl_cons]; exact GB.putL l (GB.putP h k)
/-- an index whose blocks are at B and above; all below is as it was in w0 -/
structure Ix1 (B : Nat) (w0 w : World) (g : Nat) (own : Nat → Prop) (m : Int) (s : Ixs) : Prop where
  bel : Below B w0 w
  le : B ≤ w.heap.size
  ix : IxAt w g own m s.1 s.2
  up : ∀ i, own i → B ≤ i
  gb : GB m s.2
theorem Ix1.below {B : Nat} {w0 w w' : World} {g : Nat} {own : Nat → Prop} {m : Int} {s : Ixs} (h : Ix1 B w0 w g own m s) (hb : Below w.heap.size w w') : Ix1 B w0 w' g own m s :=
  ⟨h.bel.trans (hb.mono h.le), Nat.le_trans h.le hb.size, h.ix.below hb, h.up, h.gb⟩
theorem Ix1.lt {B : Nat} {w0 w : World} {g : Nat} {own : Nat → Prop} {m : Int} {s : Ixs} (h : Ix1 B w0 w g own m s) {i : Nat} (hi : own i) : i < w.heap.size := h.ix.lt hi
theorem Ix1.put {B : Nat} {w0 w w' : World} {g : Nat} {own own' : Nat → Prop} {m : Int} {s : Ixs} (h : Ix1 B w0 w g own m s) {k : S29} (hI : IxAt w' g own' m (putP m s.1 s.2 k).1 (putP m s.1 s.2 k).2) (ho : ∀ i, own' i → own i ∨ w.heap.size ≤ i) (hK : Kept own w w') : Ix1 B w0 w' g own' m (putS m s k) :=
  ⟨h.bel.trans (hK.below h.le h.up), Nat.le_trans h.le hK.size, hI, fun i hi => by
    rcases ho i hi with h1 | h1
    · exact h.up i h1
    · have := h.le; omega, GB.putP h.gb k⟩
/-- .. and another one beside it -/
theorem Ix1.beside {B : Nat} {w0 w w' : World} {g : Nat} {own ownx : Nat → Prop} {m : Int} {s : Ixs} (h : Ix1 B w0 w g own m s) (hK : Kept ownx w w') (hd : ∀ i, own i → ¬ ownx i) (hu : ∀ i, ownx i → B ≤ i) : Ix1 B w0 w' g own m s :=
  ⟨h.bel.trans (hK.below h.le hu), Nat.le_trans h.le hK.size, h.ix.kept hK hd, h.up, h.gb⟩
theorem Ix1.cell {B : Nat} {w0 w : World} {g : Nat} {own : Nat → Prop} {m : Int} {s : Ixs} (h : Ix1 B w0 w g own m s) {b : Nat} {o : Obj} (hb : w0.heap[b]? = some o) (hl : b < B) : w.heap[b]? = some o := (h.bel.block b hl).trans hb
theorem rdT29_at (l : List S29) (i : Nat) (h : i < l.length) : rd_T29 l (i : Int) = l[i] := by
  unfold rd_T29; simp [List.getD_eq_getElem?_getD, List.getElem?_eq_getElem h]
theorem four (w : World) (o1 o2 o3 o4 : Obj) : Aside0 (((((w.alloc o1).alloc o2).alloc o3).alloc o4).heap[w.heap.size]? = some o1) ∧ Aside0 (((((w.alloc o1).alloc o2).alloc o3).alloc o4).heap[w.heap.size + 1]? = some o2) ∧ Aside0 (((((w.alloc o1).alloc o2).alloc o3).alloc o4).heap[w.heap.size + 2]? = some o3) ∧ Aside0 (((((w.alloc o1).alloc o2).alloc o3).alloc o4).heap[w.heap.size + 3]? = some o4) ∧
    Aside0 (((((w.alloc o1).alloc o2).alloc o3).alloc o4).heap.size = w.heap.size + 4) ∧ Aside0 (Below w.heap.size w ((((w.alloc o1).alloc o2).alloc o3).alloc o4)) := by
  obtain ⟨M1, M2, M3, HSZ, HB⟩ := three w o1 o2 o3
  generalize ((w.alloc o1).alloc o2).alloc o3 = w3 at M1 M2 M3 HSZ HB ⊢
  have n4 := heap_alloc_new w3 o4
  have hs4 : (w3.alloc o4).heap.size = w3.heap.size + 1 := by simp
  have hb4 := below_alloc (Below.refl w3.heap.size w3) o4
  generalize w3.alloc o4 = w4 at *
  have h := HSZ.out
  rw [h] at n4 hs4
  exact ⟨⟨(hb4.block _ (by omega)).trans M1.out⟩, ⟨(hb4.block _ (by omega)).trans M2.out⟩, ⟨(hb4.block _ (by omega)).trans M3.out⟩, ⟨n4⟩, ⟨hs4⟩, ⟨below_step HB.out hb4⟩⟩
theorem two_ (w : World) (o1 o2 : Obj) : Aside0 (((w.alloc o1).alloc o2).heap[w.heap.size]? = some o1) ∧ Aside0 (((w.alloc o1).alloc o2).heap[w.heap.size + 1]? = some o2) ∧ Aside0 (((w.alloc o1).alloc o2).heap.size = w.heap.size + 2) ∧ Aside0 (Below w.heap.size w ((w.alloc o1).alloc o2)) := by
  have n1 := heap_alloc_new w o1
  have hs1 : (w.alloc o1).heap.size = w.heap.size + 1 := by simp
  have hb1 := below_alloc (Below.refl w.heap.size w) o1
  generalize w.alloc o1 = w1 at *
  have n2 := heap_alloc_new w1 o2
  have hs2 : (w1.alloc o2).heap.size = w1.heap.size + 1 := by simp
  have hb2 := below_alloc (Below.refl w1.heap.size w1) o2
  generalize w1.alloc o2 = w2 at *
  rw [hs1] at n2 hs2
  exact ⟨⟨(hb2.block _ (by omega)).trans n1⟩, ⟨n2⟩, ⟨hs2⟩, ⟨below_step hb1 hb2⟩⟩
end Go.Proofs.Ytgenfbpaooeofaa.P
