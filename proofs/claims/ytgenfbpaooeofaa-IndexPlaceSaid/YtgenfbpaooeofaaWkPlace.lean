/- The walk of the law IndexPlace. No condition but each theorem's own. -/
import Derived.Test.YtgenfbpaooeofaaPx0
import Derived.Test.YtgenfbpaooeofaaPx5
import Derived.Test.YtgenfbpaooeofaaPx6
import Derived.Test.YtgenfbpaooeofaaPx10
import Derived.Test.YtgenfbpaooeofaaIdxW
import Derived.Test.YtgenfbpaooeofaaAttrW
namespace Go.Proofs.Ytgenfbpaooeofaa.P
open Go.RowKit Go.Proofs.YtgenfbpaooeofaaW.PrintWords Go.Proofs.YtgenfbpaooeofaaW.PrintLast Go.Proofs.YtgenfbpaooeofaaW.PrintMore
set_option linter.unusedVariables false
set_option linter.unusedSimpArgs false
def inPlace (a b : S29) : S29 := ⟨a.f0, b.f1, b.f2⟩
set_option maxHeartbeats 8000000 in
set_option maxRecDepth 100000 in
theorem IndexPlace.calls (A0 : Option Addr) (c0 : Nat) (l : List S29) (a b : S29) (c : S24) (sf : S26) (n : Int) (w : World) (hr0 : Kd.C k29 w A0 l.length l) (hc0 : l.length ≤ c0)
    (hfin : (∀ k ∈ l, k.f2 ≤ 1099511627776) → l.length ≤ 60 → a.f2 ≤ 1099511627776 → b.f2 ≤ 1099511627776 →
      sm (attrP (bnd n) (putS (bnd n) (l.foldl (putS (bnd n)) (putS (bnd n) ix0 a)) (inPlace a b)).2 c sf).1 (attrP (bnd n) (putS (bnd n) (l.foldl (putS (bnd n)) (putS (bnd n) ix0 a)) (inPlace a b)).2 c sf).2
        (attrP (bnd n) (putS (bnd n) (l.foldl (putS (bnd n)) ix0) (inPlace a b)).2 c sf).1 (attrP (bnd n) (putS (bnd n) (l.foldl (putS (bnd n)) ix0) (inPlace a b)).2 c sf).2 = true ∧
      (putS (bnd n) (l.foldl (putS (bnd n)) (putS (bnd n) ix0 a)) (inPlace a b)).1.length = (putS (bnd n) (l.foldl (putS (bnd n)) ix0) (inPlace a b)).1.length) :
    Calls Try.prog 6 #[.slice A0 l.length c0, knV a, knV b, .agg #[.int .i64 c.f0, .int .i64 c.f1, .int .i64 c.f2, .int .i64 c.f3, .int .i64 c.f4, .string c.f5], insV sf, .int .i64 n] w fun e w' => e = .returned (.bool true) ∧ Below w.heap.size w w' := by
  have HF := Aside0.mk hfin
  clear hfin
  have hlen : l.length ≤ 9223372036854775807 := hr0.2.1
  have HR0 := Aside0.mk hr0
  clear hr0
  obtain ⟨M1, M2, M3, M4, HSZ, HB⟩ := four w (.cells #[.int .i64 a.f0.f0, .int .i64 a.f0.f1, .int .i64 a.f1.f0, .int .i64 a.f1.f1, .int .i64 a.f1.f2, .int .i64 a.f1.f3, .int .i64 a.f1.f4, .string a.f1.f5, .int .i64 a.f2] 29)
    (.cells #[.int .i64 b.f0.f0, .int .i64 b.f0.f1, .int .i64 b.f1.f0, .int .i64 b.f1.f1, .int .i64 b.f1.f2, .int .i64 b.f1.f3, .int .i64 b.f1.f4, .string b.f1.f5, .int .i64 b.f2] 29)
    (.cells #[.int .i64 c.f0, .int .i64 c.f1, .int .i64 c.f2, .int .i64 c.f3, .int .i64 c.f4, .string c.f5] 24) (.cells #[.int .i64 sf.f0, .int .i64 sf.f1] 26)
  unfold insV knV
  go_enter Try.func6, Try.ntmps6
  go_wp2_with fail
  generalize ((((w.alloc (.cells #[.int .i64 a.f0.f0, .int .i64 a.f0.f1, .int .i64 a.f1.f0, .int .i64 a.f1.f1, .int .i64 a.f1.f2, .int .i64 a.f1.f3, .int .i64 a.f1.f4, .string a.f1.f5, .int .i64 a.f2] 29)).alloc (.cells #[.int .i64 b.f0.f0, .int .i64 b.f0.f1, .int .i64 b.f1.f0, .int .i64 b.f1.f1, .int .i64 b.f1.f2, .int .i64 b.f1.f3, .int .i64 b.f1.f4, .string b.f1.f5, .int .i64 b.f2] 29)).alloc (.cells #[.int .i64 c.f0, .int .i64 c.f1, .int .i64 c.f2, .int .i64 c.f3, .int .i64 c.f4, .string c.f5] 24)).alloc (.cells #[.int .i64 sf.f0, .int .i64 sf.f1] 26)) = w0 at M1 M2 M3 M4 HSZ HB ⊢
  refine (colloquylaw08_awake.calls true w0 rfl).mono ?_
  rintro e wA ⟨rfl, hbA⟩
  have HBA := Aside0.mk hbA
  clear hbA
  go_wp2_with fail
  refine (index_New.calls n wA).mono ?_
  rintro e wX ⟨gx, ownx, rfl, hIX, hownx, hbX⟩
  have HIX := Aside0.mk hIX
  have HOX := Aside0.mk hownx
  have HBX := Aside0.mk hbX
  clear hIX hownx hbX
  go_wp2_with fail
  refine (index_New.calls n wX).mono ?_
  rintro e wY ⟨gy, owny, rfl, hIY, howny, hbY⟩
  have hWY : Below wA.heap.size wA wY := HBX.out.trans (hbY.mono HBX.out.size)
  have H0Y : Below w0.heap.size w0 wY := below_step HBA.out hWY
  have L1 := (H0Y.block _ (blk_lt M1.out)).trans M1.out
  have L2 := (H0Y.block _ (blk_lt M2.out)).trans M2.out
  have L3 := (H0Y.block _ (blk_lt M3.out)).trans M3.out
  have L4 := (H0Y.block _ (blk_lt M4.out)).trans M4.out
  have hBA : w.heap.size + 4 ≤ wA.heap.size := by have h1 := HSZ.out; have h2 := HBA.out.size; omega
  have hWB : Below w.heap.size w wY := below_step HB.out H0Y
  have HX := Aside0.mk (show Ix1 wA.heap.size wY wY gx ownx (bnd n) ix0 from ⟨Below.refl _ _, hWY.size, HIX.out.below hbY, HOX.out, GB.nil _⟩)
  have HY := Aside0.mk (show Ix1 wA.heap.size wY wY gy owny (bnd n) ix0 from ⟨Below.refl _ _, hWY.size, hIY, fun i hi => Nat.le_trans HBX.out.size (howny i hi), GB.nil _⟩)
  have HD : Aside0 (∀ i, ownx i → ¬ owny i) := ⟨fun i h1 h2 => by have := HIX.out.lt h1; have := howny i h2; omega⟩
  clear hIY howny hbY HIX HOX HBX hWY H0Y HBA HB M1 M2 M3 M4 HSZ
  have x0 := blk_cell L1 8
  have x1 := blk_cell L2 8
  have x2 := blk_cell L1 0
  have x3 := blk_cell L1 1
  have x4 := blk_cell L2 0
  have x5 := blk_cell L2 1
  have x6 := blk_frozen L2 0
  have x7 := blk_frozen L2 1
  have z2 := blk_cell L1 2
  have z3 := blk_cell L1 3
  have z4 := blk_cell L1 4
  have z5 := blk_cell L1 5
  have z6 := blk_cell L1 6
  have z7 := blk_cell L1 7
  simp only [List.getElem?_toArray, List.getElem?_cons_zero, List.getElem?_cons_succ] at x0 x1 x2 x3 x4 x5 z2 z3 z4 z5 z6 z7
  have HL1 := Aside0.mk L1
  have HL2 := Aside0.mk L2
  have HL3 := Aside0.mk L3
  have HL4 := Aside0.mk L4
  have HWB := Aside0.mk hWB
  clear L1 L2 L3 L4 hWB
  generalize wA.heap.size = B at HX HY hBA
  go_wp2_with fail
  · go_ret
    exact ⟨rfl, HWB.out⟩
  rotate_left
  · go_ret
    exact ⟨rfl, HWB.out⟩
  · go_ret
    exact ⟨rfl, HWB.out⟩
  clear x0 x1 x2 x3 x4 x5 x6 x7 z2 z3 z4 z5 z6 z7
  have H60 : Aside0 (l.length ≤ 60 ∧ a.f2 ≤ 1099511627776 ∧ b.f2 ≤ 1099511627776) := ⟨by omega⟩
  have hl60 : l.length ≤ 60 := H60.out.1
  have hf : ∀ i, i ≠ w.heap.size + 1 → ((wY.setCell ⟨w.heap.size + 1, 0, none⟩ (.int .i64 a.f0.f0)).setCell ⟨w.heap.size + 1, 1, none⟩ (.int .i64 a.f0.f1)).heap[i]? = wY.heap[i]? := fun i hi => (Below.heap_setCell _ ⟨w.heap.size + 1, 1, none⟩ _ i hi).trans (Below.heap_setCell _ ⟨w.heap.size + 1, 0, none⟩ _ i hi)
  have hsz : ((wY.setCell ⟨w.heap.size + 1, 0, none⟩ (.int .i64 a.f0.f0)).setCell ⟨w.heap.size + 1, 1, none⟩ (.int .i64 a.f0.f1)).heap.size = wY.heap.size := by simp
  have hW6 := (HWB.out.setCell (p := ⟨w.heap.size + 1, 0, none⟩) (by show w.heap.size ≤ w.heap.size + 1; omega) (.int .i64 a.f0.f0)).setCell (p := ⟨w.heap.size + 1, 1, none⟩) (by show w.heap.size ≤ w.heap.size + 1; omega) (.int .i64 a.f0.f1)
  have hL2 := blk_set (blk_set HL2.out 0 (.int .i64 a.f0.f0)) 1 (.int .i64 a.f0.f1)
  simp only [List.setIfInBounds_toArray, List.set_cons_zero, List.set_cons_succ] at hL2
  have HK : Kept (fun i => i = w.heap.size + 1) wY ((wY.setCell ⟨w.heap.size + 1, 0, none⟩ (.int .i64 a.f0.f0)).setCell ⟨w.heap.size + 1, 1, none⟩ (.int .i64 a.f0.f1)) := ⟨rfl, rfl, rfl, by omega, fun i hi hn => hf i hn⟩
  generalize (wY.setCell ⟨w.heap.size + 1, 0, none⟩ (.int .i64 a.f0.f0)).setCell ⟨w.heap.size + 1, 1, none⟩ (.int .i64 a.f0.f1) = w6 at hf hsz hW6 hL2 HK ⊢
  have HX6 := Aside0.mk (show Ix1 B w6 w6 gx ownx (bnd n) ix0 from ⟨Below.refl _ _, by rw [hsz]; exact HX.out.le, HX.out.ix.kept HK (fun i hi e => by have := HX.out.up i hi; omega), HX.out.up, HX.out.gb⟩)
  have HY6 := Aside0.mk (show Ix1 B w6 w6 gy owny (bnd n) ix0 from ⟨Below.refl _ _, by rw [hsz]; exact HY.out.le, HY.out.ix.kept HK (fun i hi e => by have := HY.out.up i hi; omega), HY.out.up, HY.out.gb⟩)
  have HL2' := Aside0.mk hL2
  have HL3' := Aside0.mk ((hf (w.heap.size + 2) (by omega)).trans HL3.out)
  have HL4' := Aside0.mk ((hf (w.heap.size + 3) (by omega)).trans HL4.out)
  have HW6 := Aside0.mk hW6
  clear hf hsz hW6 hL2 HK HX HY HL1 HL2 HL3 HL4 HWB
  refine (index_Put.calls gx ownx (bnd n) ix0.1 ix0.2 a w6 HX6.out.ix).mono ?_
  rintro e w7 ⟨rfl, ownx1, hI7, ho1, ho2, hK7⟩
  have HX7 := Aside0.mk (HX6.out.put hI7 ho2 hK7)
  have HY7 := Aside0.mk (HY6.out.beside hK7 (fun i h1 h2 => HD.out i h2 h1) HX6.out.up)
  have HD7 : Aside0 (∀ i, ownx1 i → ¬ owny i) := ⟨fun i h1 h2 => by
    rcases ho2 i h1 with h3 | h3
    · exact HD.out i h3 h2
    · have := HY6.out.lt h2; omega⟩
  clear hI7 ho1 ho2 hK7 HX6 HY6 HD
  go_wp2_with fail
  go_loopw [16] (fun v16 wr => ∃ (i : Nat) (ox oy : Nat → Prop), i ≤ l.length ∧ v16 = .int .i64 i ∧ Aside0 (∀ j (h : j < l.length), j < i → l[j].f2 ≤ 1099511627776) ∧ Aside0 (Ix1 B w6 wr gx ox (bnd n) ((l.take i).foldl (putS (bnd n)) (putS (bnd n) ix0 a))) ∧ Aside0 (Ix1 B w6 wr gy oy (bnd n) ((l.take i).foldl (putS (bnd n)) ix0)) ∧ Aside0 (∀ j, ox j → ¬ oy j)) (fun v16 _ => l.length - (intOf v16).toNat)
  case atStart => exact ⟨0, ownx1, owny, by omega, rfl, ⟨fun j h h2 => by omega⟩, HX7, HY7, HD7⟩
  case round =>
    clear HX7 HY7 HD7
    obtain ⟨i, ox, oy, hi, rfl, HS, HXr, HYr, HDr⟩ := hrel
    have HWr := Aside0.mk (HW6.out.trans (HXr.out.bel.mono (by omega)))
    by_cases hlt : i < l.length
    · obtain ⟨ad', e0, hx0, hx1, hx2, hx3, hx4, hx5, hx6, hx7, hx8⟩ := at_T29 (Kd.C_below HR0.out (HWr.out)) (i : Int) (by omega) (by omega)
      cases e0
      obtain ⟨y, hy⟩ : ∃ y, rd_T29 l (i : Int) = y := ⟨_, rfl⟩
      simp only [hy, Int.toNat_natCast] at hx0 hx1 hx2 hx3 hx4 hx5 hx6 hx7 hx8
      have HYY : Aside0 (l[i]'hlt = y) := ⟨by rw [← hy, rdT29_at l i hlt]⟩
      clear hy
      go_wp2_with fail
      · go_ret
        exact ⟨rfl, HWr.out⟩
      have HS1 : Aside0 (∀ j (h : j < l.length), j < i + 1 → l[j].f2 ≤ 1099511627776) := ⟨fun j h hj => by
        by_cases e : j = i
        · subst e; rw [HYY.out]; omega
        · exact HS.out j h (by omega)⟩
      clear hx0 hx1 hx2 hx3 hx4 hx5 hx6 hx7 hx8
      refine (index_Put.calls gx ox (bnd n) _ _ y wr HXr.out.ix).mono ?_
      rintro e w8 ⟨rfl, ox1, hI8, ho1, ho2, hK8⟩
      have HX8 := Aside0.mk (HXr.out.put hI8 ho2 hK8)
      have HY8 := Aside0.mk (HYr.out.beside hK8 (fun i h1 h2 => HDr.out i h2 h1) HXr.out.up)
      have HD8 : Aside0 (∀ i, ox1 i → ¬ oy i) := ⟨fun i h1 h2 => by
        rcases ho2 i h1 with h3 | h3
        · exact HDr.out i h3 h2
        · have := HYr.out.lt h2; omega⟩
      clear hI8 ho1 ho2 hK8 HXr HYr HDr
      have HW8 := Aside0.mk (HW6.out.trans (HX8.out.bel.mono (by omega)))
      obtain ⟨ad2, e0, hx0, hx1, hx2, hx3, hx4, hx5, hx6, hx7, hx8⟩ := at_T29 (Kd.C_below HR0.out (HW8.out)) (i : Int) (by omega) (by omega)
      cases e0
      have hy : rd_T29 l (i : Int) = y := by rw [rdT29_at l i hlt]; exact HYY.out
      simp only [hy, Int.toNat_natCast] at hx0 hx1 hx2 hx3 hx4 hx5 hx6 hx7 hx8
      clear hy
      go_wp2_with fail
      clear hx0 hx1 hx2 hx3 hx4 hx5 hx6 hx7 hx8
      refine (index_Put.calls gy oy (bnd n) _ _ y w8 HY8.out.ix).mono ?_
      rintro e w9 ⟨rfl, oy1, hI9, ho1, ho2, hK9⟩
      have HY9 := Aside0.mk (HY8.out.put hI9 ho2 hK9)
      have HX9 := Aside0.mk (HX8.out.beside hK9 (fun i h1 h2 => HD8.out i h1 h2) HY8.out.up)
      have HD9 : Aside0 (∀ i, ox1 i → ¬ oy1 i) := ⟨fun i h1 h2 => by
        rcases ho2 i h2 with h3 | h3
        · exact HD8.out i h1 h3
        · have := HX8.out.lt h1; omega⟩
      clear hI9 ho1 ho2 hK9 HX8 HY8 HD8
      rw [← foldl_take (putS (bnd n)) _ l i hlt y HYY.out] at HX9 HY9
      go_wp2_with fail
      go_roundw
      case rel => exact ⟨i + 1, ox1, oy1, by omega, by go_num, HS1, HX9, HY9, HD9⟩
      case measure => simp [intOf]; omega
    · have hil : i = l.length := by omega
      subst hil
      rw [List.take_length] at HXr HYr
      have HK : Aside0 (∀ k ∈ l, k.f2 ≤ 1099511627776) := ⟨fun k hk => by
        obtain ⟨j, hj, e⟩ := List.getElem_of_mem hk
        rw [← e]
        exact HS.out j hj hj⟩
      have hf := HF.out HK.out H60.out.1 H60.out.2.1 H60.out.2.2
      have HF1 := Aside0.mk hf
      clear hf HS HK
      have N2 := HXr.out.cell HL2'.out (by omega)
      have q0 := blk_cell N2 0
      have q1 := blk_cell N2 1
      have q2 := blk_cell N2 2
      have q3 := blk_cell N2 3
      have q4 := blk_cell N2 4
      have q5 := blk_cell N2 5
      have q6 := blk_cell N2 6
      have q7 := blk_cell N2 7
      have q8 := blk_cell N2 8
      simp only [List.getElem?_toArray, List.getElem?_cons_zero, List.getElem?_cons_succ] at q0 q1 q2 q3 q4 q5 q6 q7 q8
      clear N2
      go_wp2_with fail
      clear q0 q1 q2 q3 q4 q5 q6 q7 q8
      refine (index_Put.calls gx ox (bnd n) _ _ (inPlace a b) wr HXr.out.ix).mono ?_
      rintro e w8 ⟨rfl, ox1, hI8, ho1, ho2, hK8⟩
      have HX8 := Aside0.mk (HXr.out.put hI8 ho2 hK8)
      have HY8 := Aside0.mk (HYr.out.beside hK8 (fun i h1 h2 => HDr.out i h2 h1) HXr.out.up)
      have HD8 : Aside0 (∀ i, ox1 i → ¬ oy i) := ⟨fun i h1 h2 => by
        rcases ho2 i h1 with h3 | h3
        · exact HDr.out i h3 h2
        · have := HYr.out.lt h2; omega⟩
      clear hI8 ho1 ho2 hK8 HXr HYr HDr
      have N2 := HX8.out.cell HL2'.out (by omega)
      have q0 := blk_cell N2 0
      have q1 := blk_cell N2 1
      have q2 := blk_cell N2 2
      have q3 := blk_cell N2 3
      have q4 := blk_cell N2 4
      have q5 := blk_cell N2 5
      have q6 := blk_cell N2 6
      have q7 := blk_cell N2 7
      have q8 := blk_cell N2 8
      simp only [List.getElem?_toArray, List.getElem?_cons_zero, List.getElem?_cons_succ] at q0 q1 q2 q3 q4 q5 q6 q7 q8
      clear N2
      go_wp2_with fail
      clear q0 q1 q2 q3 q4 q5 q6 q7 q8
      refine (index_Put.calls gy oy (bnd n) _ _ (inPlace a b) w8 HY8.out.ix).mono ?_
      rintro e w9 ⟨rfl, oy1, hI9, ho1, ho2, hK9⟩
      have HY9 := Aside0.mk (HY8.out.put hI9 ho2 hK9)
      have HX9 := Aside0.mk (HX8.out.beside hK9 (fun i h1 h2 => HD8.out i h1 h2) HY8.out.up)
      clear hI9 ho1 ho2 hK9 HX8 HY8 HD8
      have HW9 := Aside0.mk (HW6.out.trans (HX9.out.bel.mono (by omega)))
      obtain ⟨X, hX⟩ : ∃ X, putS (bnd n) (l.foldl (putS (bnd n)) (putS (bnd n) ix0 a)) (inPlace a b) = X := ⟨_, rfl⟩
      obtain ⟨Y, hY⟩ : ∃ Y, putS (bnd n) (l.foldl (putS (bnd n)) ix0) (inPlace a b) = Y := ⟨_, rfl⟩
      rw [hX, hY] at HF1
      rw [hX] at HX9
      rw [hY] at HY9
      clear hX hY
      have N3 := HX9.out.cell HL3'.out (by omega)
      have N4 := HX9.out.cell HL4'.out (by omega)
      have hS : ∀ w', Below w9.heap.size w9 w' → w'.cell? ⟨w.heap.size + 1 + 1, 0, none⟩ = some (.int .i64 c.f0) ∧ w'.cell? ⟨w.heap.size + 1 + 1, 1, none⟩ = some (.int .i64 c.f1) ∧ w'.cell? ⟨w.heap.size + 1 + 1, 2, none⟩ = some (.int .i64 c.f2) ∧ w'.cell? ⟨w.heap.size + 1 + 1, 3, none⟩ = some (.int .i64 c.f3) ∧ w'.cell? ⟨w.heap.size + 1 + 1, 4, none⟩ = some (.int .i64 c.f4) ∧ w'.cell? ⟨w.heap.size + 1 + 1, 5, none⟩ = some (.string c.f5) ∧
          w'.cell? ⟨w.heap.size + 1 + 1 + 1, 0, none⟩ = some (.int .i64 sf.f0) ∧ w'.cell? ⟨w.heap.size + 1 + 1 + 1, 1, none⟩ = some (.int .i64 sf.f1) := fun w' hb =>
        ⟨pw_cell_below hb (blk_cell N3 0), pw_cell_below hb (blk_cell N3 1), pw_cell_below hb (blk_cell N3 2), pw_cell_below hb (blk_cell N3 3), pw_cell_below hb (blk_cell N3 4), pw_cell_below hb (blk_cell N3 5), pw_cell_below hb (blk_cell N4 0), pw_cell_below hb (blk_cell N4 1)⟩
      have hm := bnd_in n
      have hlx : (attrP (bnd n) X.2 c sf).2.length ≤ 7 := by rw [attr_len]; omega
      have hly : (attrP (bnd n) Y.2 c sf).2.length ≤ 7 := by rw [attr_len]; omega
      go_wp2_with fail
      go_region_held3 (fun w' => w'.cell? ⟨w.heap.size + 1 + 1, 0, none⟩ = some (.int .i64 c.f0) ∧ w'.cell? ⟨w.heap.size + 1 + 1, 1, none⟩ = some (.int .i64 c.f1) ∧ w'.cell? ⟨w.heap.size + 1 + 1, 2, none⟩ = some (.int .i64 c.f2) ∧ w'.cell? ⟨w.heap.size + 1 + 1, 3, none⟩ = some (.int .i64 c.f3) ∧ w'.cell? ⟨w.heap.size + 1 + 1, 4, none⟩ = some (.int .i64 c.f4) ∧ w'.cell? ⟨w.heap.size + 1 + 1, 5, none⟩ = some (.string c.f5) ∧
          w'.cell? ⟨w.heap.size + 1 + 1 + 1, 0, none⟩ = some (.int .i64 sf.f0) ∧ w'.cell? ⟨w.heap.size + 1 + 1 + 1, 1, none⟩ = some (.int .i64 sf.f1))
        (first | exact hS _ hbS | exact hS _ hbU | exact hS _ hbT | exact hS _ (below_drew (Below.refl _ _)))
        (first
          | (go_at_call 17; refine (index_Len.calls gy oy1 (bnd n) Y.1 Y.2 _ (HY9.out.ix.below hbL)).mono ?_; rintro e wM ⟨rfl, rfl⟩)
          | (go_at_call 17; refine (index_Len.calls gx ox1 (bnd n) X.1 X.2 _ (HX9.out.ix.below hbS)).mono ?_; rintro e wL ⟨rfl, rfl⟩; have hbL := hbS)
          | (go_at_call 18; refine (attr_Same.calls _ _ _ _ _ _ _ _ true _ hCT2 hcT hCU hcU ((attr_Same.eq _ _ _ _).trans (congrArg some HF1.out.1))).mono ?_; rintro e wS ⟨rfl, hbS0⟩; have hbS : Below w9.heap.size w9 wS := below_step hbU hbS0; clear hbS0)
          | (go_at_call 16; refine (index_Attr.calls gy oy1 (bnd n) Y.1 Y.2 c sf _ (HY9.out.ix.below hbT) hm HY9.out.gb).mono ?_; rintro e wU ⟨vU, rfl, hRU, hbU0⟩; have hbU : Below w9.heap.size w9 wU := below_step hbT hbU0; obtain ⟨AU, cU, rfl, hcU, hCU⟩ := Kd.R_reads hRU; have hCT2 := Kd.C_below hCT hbU0; clear hRU hbU0)
          | (go_at_call 16; refine (index_Attr.calls gx ox1 (bnd n) X.1 X.2 c sf _ (HX9.out.ix.below (below_drew (Below.refl _ _))) hm HX9.out.gb).mono ?_; rintro e wT ⟨vT, rfl, hRT, hbT0⟩; have hbT : Below w9.heap.size w9 wT := below_step (below_drew (Below.refl _ _)) hbT0; obtain ⟨AT, cT, rfl, hcT, hCT⟩ := Kd.R_reads hRT; clear hRT hbT0))
      rename_i hHeld_
      clear hHeld_ hS hbU hbT hCU hCT2 hcU hcT
      have hq : (((X.1.length : Int)) == ((Y.1.length : Int))) = true := by rw [HF1.out.2]; simp
      rw [hq]
      have hEnd := HW9.out.trans (hbL.mono (HW9.out.size))
      clear hq
      go_wp2_with fail
      go_ret
      exact ⟨rfl, hEnd⟩
end Go.Proofs.Ytgenfbpaooeofaa.P
