/- The walk of the law IndexOwn. No condition but each theorem's own. -/
import Derived.Test.YtgenfbpaooeofaaPx0
import Derived.Test.YtgenfbpaooeofaaPx5
import Derived.Test.YtgenfbpaooeofaaPx6
import Derived.Test.YtgenfbpaooeofaaPx10
import Derived.Test.YtgenfbpaooeofaaIdxW
import Derived.Test.YtgenfbpaooeofaaAttrW
import Derived.IntWalk
namespace Go.Proofs.Ytgenfbpaooeofaa.P
open Go.RowKit Go.Proofs.YtgenfbpaooeofaaW.PrintWords Go.Proofs.YtgenfbpaooeofaaW.PrintLast Go.Proofs.YtgenfbpaooeofaaW.PrintMore
set_option linter.unusedVariables false
set_option linter.unusedSimpArgs false
def ofSelf (sf : S26) (b : S29) : S29 := ⟨sf, b.f1, b.f2⟩
attribute [local go_sem high] eqInst
set_option maxHeartbeats 8000000 in
set_option maxRecDepth 100000 in
theorem IndexOwn.calls (A0 : Option Addr) (c0 : Nat) (l : List S29) (c : S24) (sf : S26) (n : Int) (b : S29) (w : World) (hr0 : Kd.C k29 w A0 l.length l) (hc0 : l.length ≤ c0)
    (hfin : (∀ k ∈ l, k.f2 ≤ 1099511627776) → l.length ≤ 60 → (∀ k ∈ l, k.f0 ≠ sf) → (∀ (i k : Nat) (hi : i < l.length) (hk : k < i), (l[k]'(by omega)).f0 ≠ l[i].f0) →
      sm (attrP (bnd n) (l.foldl (putS (bnd n)) (putS (bnd n) ix0 (ofSelf sf b))).2 c sf).1 (attrP (bnd n) (l.foldl (putS (bnd n)) (putS (bnd n) ix0 (ofSelf sf b))).2 c sf).2
        (attrP (bnd n) (l.reverse.foldl (putS (bnd n)) ix0).2 c sf).1 (attrP (bnd n) (l.reverse.foldl (putS (bnd n)) ix0).2 c sf).2 = true) :
    Calls Try.prog 5 #[.slice A0 l.length c0, .agg #[.int .i64 c.f0, .int .i64 c.f1, .int .i64 c.f2, .int .i64 c.f3, .int .i64 c.f4, .string c.f5], insV sf, .int .i64 n, knV b] w fun e w' => e = .returned (.bool true) ∧ Below w.heap.size w w' := by
  have HF := Aside0.mk hfin
  clear hfin
  have hlen : l.length ≤ 9223372036854775807 := hr0.2.1
  have HR0 := Aside0.mk hr0
  clear hr0
  obtain ⟨M1, M2, M3, HSZ, HB⟩ := three w (.cells #[.int .i64 c.f0, .int .i64 c.f1, .int .i64 c.f2, .int .i64 c.f3, .int .i64 c.f4, .string c.f5] 24) (.cells #[.int .i64 sf.f0, .int .i64 sf.f1] 26)
    (.cells #[.int .i64 b.f0.f0, .int .i64 b.f0.f1, .int .i64 b.f1.f0, .int .i64 b.f1.f1, .int .i64 b.f1.f2, .int .i64 b.f1.f3, .int .i64 b.f1.f4, .string b.f1.f5, .int .i64 b.f2] 29)
  unfold insV knV
  go_enter Try.func5, Try.ntmps5
  go_wp2_with fail
  generalize (((w.alloc (.cells #[.int .i64 c.f0, .int .i64 c.f1, .int .i64 c.f2, .int .i64 c.f3, .int .i64 c.f4, .string c.f5] 24)).alloc (.cells #[.int .i64 sf.f0, .int .i64 sf.f1] 26)).alloc (.cells #[.int .i64 b.f0.f0, .int .i64 b.f0.f1, .int .i64 b.f1.f0, .int .i64 b.f1.f1, .int .i64 b.f1.f2, .int .i64 b.f1.f3, .int .i64 b.f1.f4, .string b.f1.f5, .int .i64 b.f2] 29)) = w0 at M1 M2 M3 HSZ HB ⊢
  refine (colloquylaw08_awake.calls true w0 rfl).mono ?_
  rintro e wA ⟨rfl, hbA⟩
  have HBA := Aside0.mk hbA
  clear hbA
  go_wp2_with fail
  refine (index_New.calls n wA).mono ?_
  rintro e wX ⟨gx, ownx, rfl, hIX, hownx, hbX⟩
  have HIX := Aside0.mk hIX
  have HOX := Aside0.mk hownx
  have HBX := Aside0.mk hbX
  clear hIX hownx hbX
  go_wp2_with fail
  refine (index_New.calls n wX).mono ?_
  rintro e wY ⟨gy, owny, rfl, hIY, howny, hbY⟩
  have hWY : Below wA.heap.size wA wY := HBX.out.trans (hbY.mono HBX.out.size)
  have H0Y : Below w0.heap.size w0 wY := below_step HBA.out hWY
  have L1 := (H0Y.block _ (blk_lt M1.out)).trans M1.out
  have L2 := (H0Y.block _ (blk_lt M2.out)).trans M2.out
  have L3 := (H0Y.block _ (blk_lt M3.out)).trans M3.out
  have hBA : w.heap.size + 3 ≤ wA.heap.size := by have h1 := HSZ.out; have h2 := HBA.out.size; omega
  have hWB : Below w.heap.size w wY := below_step HB.out H0Y
  have HX := Aside0.mk (show Ix1 wA.heap.size wY wY gx ownx (bnd n) ix0 from ⟨Below.refl _ _, hWY.size, HIX.out.below hbY, HOX.out, GB.nil _⟩)
  have HY := Aside0.mk (show Ix1 wA.heap.size wY wY gy owny (bnd n) ix0 from ⟨Below.refl _ _, hWY.size, hIY, fun i hi => Nat.le_trans HBX.out.size (howny i hi), GB.nil _⟩)
  have HD : Aside0 (∀ i, ownx i → ¬ owny i) := ⟨fun i h1 h2 => by have := HIX.out.lt h1; have := howny i h2; omega⟩
  clear hIY howny hbY HIX HOX HBX hWY H0Y HBA HB M1 M2 M3 HSZ
  have x0 := blk_cell L2 0
  have x1 := blk_cell L2 1
  have x4 := blk_cell L3 0
  have x5 := blk_cell L3 1
  have x6 := blk_frozen L3 0
  have x7 := blk_frozen L3 1
  have z2 := blk_cell L3 2
  have z3 := blk_cell L3 3
  have z4 := blk_cell L3 4
  have z5 := blk_cell L3 5
  have z6 := blk_cell L3 6
  have z7 := blk_cell L3 7
  have z8 := blk_cell L3 8
  simp only [List.getElem?_toArray, List.getElem?_cons_zero, List.getElem?_cons_succ] at x0 x1 x4 x5 z2 z3 z4 z5 z6 z7 z8
  have HL1 := Aside0.mk L1
  have HL2 := Aside0.mk L2
  have HL3 := Aside0.mk L3
  have HWB := Aside0.mk hWB
  clear L1 L2 L3 hWB
  generalize wA.heap.size = B at HX HY hBA
  go_wp2_with fail
  · go_ret
    exact ⟨rfl, HWB.out⟩
  clear x0 x1 x4 x5 x6 x7 z2 z3 z4 z5 z6 z7 z8
  have H60 : Aside0 (l.length ≤ 60) := ⟨by omega⟩
  have hl60 : l.length ≤ 60 := H60.out
  have hf : ∀ i, i ≠ w.heap.size + 1 + 1 → ((wY.setCell ⟨w.heap.size + 1 + 1, 0, none⟩ (.int .i64 sf.f0)).setCell ⟨w.heap.size + 1 + 1, 1, none⟩ (.int .i64 sf.f1)).heap[i]? = wY.heap[i]? := fun i hi => (Below.heap_setCell _ ⟨w.heap.size + 1 + 1, 1, none⟩ _ i hi).trans (Below.heap_setCell _ ⟨w.heap.size + 1 + 1, 0, none⟩ _ i hi)
  have hsz : ((wY.setCell ⟨w.heap.size + 1 + 1, 0, none⟩ (.int .i64 sf.f0)).setCell ⟨w.heap.size + 1 + 1, 1, none⟩ (.int .i64 sf.f1)).heap.size = wY.heap.size := by simp
  have hW6 := (HWB.out.setCell (p := ⟨w.heap.size + 1 + 1, 0, none⟩) (by show w.heap.size ≤ w.heap.size + 1 + 1; omega) (.int .i64 sf.f0)).setCell (p := ⟨w.heap.size + 1 + 1, 1, none⟩) (by show w.heap.size ≤ w.heap.size + 1 + 1; omega) (.int .i64 sf.f1)
  have HK : Kept (fun i => i = w.heap.size + 1 + 1) wY ((wY.setCell ⟨w.heap.size + 1 + 1, 0, none⟩ (.int .i64 sf.f0)).setCell ⟨w.heap.size + 1 + 1, 1, none⟩ (.int .i64 sf.f1)) := ⟨rfl, rfl, rfl, by omega, fun i hi hn => hf i hn⟩
  generalize (wY.setCell ⟨w.heap.size + 1 + 1, 0, none⟩ (.int .i64 sf.f0)).setCell ⟨w.heap.size + 1 + 1, 1, none⟩ (.int .i64 sf.f1) = w6 at hf hsz hW6 HK ⊢
  have HX6 := Aside0.mk (show Ix1 B w6 w6 gx ownx (bnd n) ix0 from ⟨Below.refl _ _, by rw [hsz]; exact HX.out.le, HX.out.ix.kept HK (fun i hi e => by have := HX.out.up i hi; omega), HX.out.up, HX.out.gb⟩)
  have HY6 := Aside0.mk (show Ix1 B w6 w6 gy owny (bnd n) ix0 from ⟨Below.refl _ _, by rw [hsz]; exact HY.out.le, HY.out.ix.kept HK (fun i hi e => by have := HY.out.up i hi; omega), HY.out.up, HY.out.gb⟩)
  have HL1' := Aside0.mk ((hf w.heap.size (by omega)).trans HL1.out)
  have HL2' := Aside0.mk ((hf (w.heap.size + 1) (by omega)).trans HL2.out)
  have HW6 := Aside0.mk hW6
  clear hf hsz hW6 HK HX HY HL1 HL2 HL3 HWB
  refine (index_Put.calls gx ownx (bnd n) ix0.1 ix0.2 (ofSelf sf b) w6 HX6.out.ix).mono ?_
  rintro e w7 ⟨rfl, ownx1, hI7, ho1, ho2, hK7⟩
  have HX7 := Aside0.mk (HX6.out.put hI7 ho2 hK7)
  have HY7 := Aside0.mk (HY6.out.beside hK7 (fun i h1 h2 => HD.out i h2 h1) HX6.out.up)
  have HD7 : Aside0 (∀ i, ownx1 i → ¬ owny i) := ⟨fun i h1 h2 => by
    rcases ho2 i h1 with h3 | h3
    · exact HD.out i h3 h2
    · have := HY6.out.lt h2; omega⟩
  clear hI7 ho1 ho2 hK7 HX6 HY6 HD
  go_wp2_with fail
  go_loopw [14, 15] (fun v14 _ wr => ∃ (i : Nat) (ox oy : Nat → Prop), i ≤ l.length ∧ v14 = .int .i64 i ∧ Aside0 (∀ j (h : j < l.length), j < i → l[j].f2 ≤ 1099511627776 ∧ l[j].f0 ≠ sf) ∧ Aside0 (∀ (j k : Nat) (hi : j < l.length) (hk : k < j), j < i → (l[k]'(by omega)).f0 ≠ l[j].f0) ∧ Aside0 (Ix1 B w6 wr gx ox (bnd n) ((l.take i).foldl (putS (bnd n)) (putS (bnd n) ix0 (ofSelf sf b)))) ∧ Aside0 (Ix1 B w6 wr gy oy (bnd n) ((l.reverse.take i).foldl (putS (bnd n)) ix0)) ∧ Aside0 (∀ j, ox j → ¬ oy j)) (fun v14 _ _ => l.length - (intOf v14).toNat)
  case atStart => exact ⟨0, ownx1, owny, by omega, rfl, ⟨fun j h h2 => by omega⟩, ⟨fun j k h hk h2 => by omega⟩, HX7, HY7, HD7⟩
  case round =>
    clear HX7 HY7 HD7
    obtain ⟨i, ox, oy, hi, rfl, HS, HN, HXr, HYr, HDr⟩ := hrel
    have HWr := Aside0.mk (HW6.out.trans (HXr.out.bel.mono (by omega)))
    by_cases hlt : i < l.length
    · obtain ⟨ad', e0, hx0, hx1, hx2, hx3, hx4, hx5, hx6, hx7, hx8⟩ := at_T29 (Kd.C_below HR0.out (HWr.out)) (i : Int) (by omega) (by omega)
      cases e0
      obtain ⟨y, hy⟩ : ∃ y, rd_T29 l (i : Int) = y := ⟨_, rfl⟩
      simp only [hy, Int.toNat_natCast] at hx0 hx1 hx2 hx3 hx4 hx5 hx6 hx7 hx8
      have HYY : Aside0 (l[i]'hlt = y) := ⟨by rw [← hy, rdT29_at l i hlt]⟩
      clear hy
      have N2 := HXr.out.cell HL2'.out (by omega)
      have s0 := blk_cell N2 0
      have s1 := blk_cell N2 1
      simp only [List.getElem?_toArray, List.getElem?_cons_zero, List.getElem?_cons_succ] at s0 s1
      clear N2
      by_cases hbig : 1099511627776 < y.f2
      · have hd : decide (1099511627776 < y.f2) = true := decide_eq_true hbig
        go_wp2_with fail
        go_quiet (fail)
        go_wp2_with fail
        go_ret
        exact ⟨rfl, pw_below_drewN HWr.out _⟩
      · have hd : decide (1099511627776 < y.f2) = false := decide_eq_false hbig
        by_cases hself : y.f0 = sf
        · have hse : (y.f0.f0 == sf.f0 && (y.f0.f1 == sf.f1)) = true := by rw [hself]; simp
          go_wp2_with fail
          go_quiet (fail)
          go_wp2_with fail
          go_ret
          exact ⟨rfl, pw_below_drewN HWr.out _⟩
        · have hse : (y.f0.f0 == sf.f0 && (y.f0.f1 == sf.f1)) = false := by
            cases hq : (y.f0.f0 == sf.f0 && (y.f0.f1 == sf.f1)) with
            | false => rfl
            | true =>
              refine absurd ?_ hself
              simp only [Bool.and_eq_true, beq_iff_eq] at hq
              have e1 : ∀ p q : S26, p.f0 = q.f0 → p.f1 = q.f1 → p = q := fun p q h1 h2 => by cases p; cases q; simp_all
              exact e1 _ _ hq.1 hq.2
          go_wp2_with fail
          go_quiet (fail)
          have HXq := Aside0.mk (HXr.out.below (pw_below_drewN (Below.refl _ _) nq))
          have HYq := Aside0.mk (HYr.out.below (pw_below_drewN (Below.refl _ _) nq))
          have HS1 : Aside0 (∀ j (h : j < l.length), j < i + 1 → l[j].f2 ≤ 1099511627776 ∧ l[j].f0 ≠ sf) := ⟨fun j h hj => by
            by_cases e : j = i
            · subst e; rw [HYY.out]; exact ⟨by omega, hself⟩
            · exact HS.out j h (by omega)⟩
          clear hx0 hx1 hx2 hx3 hx4 hx5 hx6 hx7 hx8 s0 s1 hse hself hd hbig HS
          go_wp2_with fail
          go_loopw [15] (fun v15 wr2 => ∃ k : Nat, k ≤ i ∧ v15 = .int .i64 k ∧ Aside0 (∀ j (h : j < k) (hl : j < l.length), l[j].f0 ≠ y.f0) ∧ Aside0 (Ix1 B w6 wr2 gx ox (bnd n) ((l.take i).foldl (putS (bnd n)) (putS (bnd n) ix0 (ofSelf sf b)))) ∧ Aside0 (Ix1 B w6 wr2 gy oy (bnd n) ((l.reverse.take i).foldl (putS (bnd n)) ix0))) (fun v15 _ => i - (intOf v15).toNat)
          case atStart => exact ⟨0, by omega, rfl, ⟨fun j h => by omega⟩, HXq, HYq⟩
          case round =>
            clear HXq HYq HXr HYr HWr
            obtain ⟨k, hk, rfl, HK, HXk, HYk⟩ := hrel
            have HWk := Aside0.mk (HW6.out.trans (HXk.out.bel.mono (by omega)))
            by_cases hlk : k < i
            · obtain ⟨ad2, e0, hx0, hx1, hx2, hx3, hx4, hx5, hx6, hx7, hx8⟩ := at_T29 (Kd.C_below HR0.out (HWk.out)) (i : Int) (by omega) (by omega)
              cases e0
              obtain ⟨ad3, e0, hz0, hz1, hz2, hz3, hz4, hz5, hz6, hz7, hz8⟩ := at_T29 (Kd.C_below HR0.out (HWk.out)) (k : Int) (by omega) (by omega)
              cases e0
              have hy : rd_T29 l (i : Int) = y := by rw [rdT29_at l i hlt]; exact HYY.out
              obtain ⟨z, hz⟩ : ∃ z, rd_T29 l (k : Int) = z := ⟨_, rfl⟩
              have HZZ : Aside0 (l[k]'(by omega) = z) := ⟨by rw [← hz, rdT29_at l k (by omega)]⟩
              simp only [hy, Int.toNat_natCast] at hx0 hx1 hx2 hx3 hx4 hx5 hx6 hx7 hx8
              simp only [hz, Int.toNat_natCast] at hz0 hz1 hz2 hz3 hz4 hz5 hz6 hz7 hz8
              clear hy hz hx2 hx3 hx4 hx5 hx6 hx7 hx8 hz2 hz3 hz4 hz5 hz6 hz7 hz8
              by_cases hsame : z.f0 = y.f0
              · have hse : (z.f0.f0 == y.f0.f0 && (z.f0.f1 == y.f0.f1)) = true := by rw [hsame]; simp
                go_wp2_with fail
                go_quiet (fail)
                go_wp2_with fail
                go_ret
                exact ⟨rfl, pw_below_drewN HWk.out _⟩
              · have hse : (z.f0.f0 == y.f0.f0 && (z.f0.f1 == y.f0.f1)) = false := by
                  cases hq : (z.f0.f0 == y.f0.f0 && (z.f0.f1 == y.f0.f1)) with
                  | false => rfl
                  | true =>
                    refine absurd ?_ hsame
                    simp only [Bool.and_eq_true, beq_iff_eq] at hq
                    have e1 : ∀ p q : S26, p.f0 = q.f0 → p.f1 = q.f1 → p = q := fun p q h1 h2 => by cases p; cases q; simp_all
                    exact e1 _ _ hq.1 hq.2
                go_wp2_with fail
                go_quiet (fail)
                have HXq := Aside0.mk (HXk.out.below (pw_below_drewN (Below.refl _ _) nq))
                have HYq := Aside0.mk (HYk.out.below (pw_below_drewN (Below.refl _ _) nq))
                have HK1 : Aside0 (∀ j (h : j < k + 1) (hl : j < l.length), l[j].f0 ≠ y.f0) := ⟨fun j h hl => by
                  by_cases e : j = k
                  · subst e; rw [HZZ.out]; exact hsame
                  · exact HK.out j (by omega) hl⟩
                clear hx0 hx1 hz0 hz1 hse hsame HXk HYk
                go_wp2_with fail
                go_roundw
                case rel => exact ⟨k + 1, by omega, by go_num, HK1, HXq, HYq⟩
                case measure => simp [intOf]; omega
            · have hki : k = i := by omega
              subst hki
              have HN1 : Aside0 (∀ (j q : Nat) (hi : j < l.length) (hk : q < j), j < k + 1 → (l[q]'(by omega)).f0 ≠ l[j].f0) := ⟨fun j q h1 h2 h3 => by
                by_cases e : j = k
                · subst e
                  rw [HYY.out]
                  exact HK.out q h2 (by omega)
                · exact HN.out j q h1 h2 (by omega)⟩
              obtain ⟨ad2, e0, hx0, hx1, hx2, hx3, hx4, hx5, hx6, hx7, hx8⟩ := at_T29 (Kd.C_below HR0.out (HWk.out)) (k : Int) (by omega) (by omega)
              cases e0
              have hy : rd_T29 l (k : Int) = y := by rw [rdT29_at l k hlt]; exact HYY.out
              simp only [hy, Int.toNat_natCast] at hx0 hx1 hx2 hx3 hx4 hx5 hx6 hx7 hx8
              clear hy HK HN
              go_wp2_with fail
              clear hx0 hx1 hx2 hx3 hx4 hx5 hx6 hx7 hx8
              refine (index_Put.calls gx ox (bnd n) _ _ y wr HXk.out.ix).mono ?_
              rintro e w8 ⟨rfl, ox1, hI8, ho1, ho2, hK8⟩
              have HX8 := Aside0.mk (HXk.out.put hI8 ho2 hK8)
              have HY8 := Aside0.mk (HYk.out.beside hK8 (fun i h1 h2 => HDr.out i h2 h1) HXk.out.up)
              have HD8 : Aside0 (∀ i, ox1 i → ¬ oy i) := ⟨fun i h1 h2 => by
                rcases ho2 i h1 with h3 | h3
                · exact HDr.out i h3 h2
                · have := HYk.out.lt h2; omega⟩
              clear hI8 ho1 ho2 hK8 HXk HYk HDr
              rw [← foldl_take (putS (bnd n)) _ l k hlt y HYY.out] at HX8
              have HW8 := Aside0.mk (HW6.out.trans (HX8.out.bel.mono (by omega)))
              have hjl : l.length - 1 - k < l.length := by omega
              have hje : (l.length : Int) - 1 - (k : Int) = ((l.length - 1 - k : Nat) : Int) := by omega
              obtain ⟨j, hj⟩ : ∃ j, l.length - 1 - k = j := ⟨_, rfl⟩
              rw [hj] at hjl hje
              obtain ⟨ad2, e0, hx0, hx1, hx2, hx3, hx4, hx5, hx6, hx7, hx8⟩ := at_T29 (Kd.C_below HR0.out (HW8.out)) (j : Int) (by omega) (by omega)
              cases e0
              obtain ⟨z, hz⟩ : ∃ z, rd_T29 l (j : Int) = z := ⟨_, rfl⟩
              have HZZ : Aside0 (l[j]'hjl = z) := ⟨by rw [← hz, rdT29_at l j hjl]⟩
              have HZR : Aside0 (l.reverse[k]'(by rw [List.length_reverse]; exact hlt) = z) := ⟨by rw [List.getElem_reverse]; rw [← HZZ.out]; congr 1⟩
              simp only [hz, Int.toNat_natCast] at hx0 hx1 hx2 hx3 hx4 hx5 hx6 hx7 hx8
              clear hz
              have hwa : IntKind.i64.wrap ((l.length : Int) - 1) = (l.length : Int) - 1 := IntWalk.i64_in _ (by omega)
              have hwb : IntKind.i64.wrap ((l.length : Int) - 1 - (k : Int)) = (j : Int) := by rw [hje]; exact IntWalk.i64_in _ (by omega)
              go_wp2_with fail
              clear hx0 hx1 hx2 hx3 hx4 hx5 hx6 hx7 hx8 hwa hwb
              refine (index_Put.calls gy oy (bnd n) _ _ z w8 HY8.out.ix).mono ?_
              rintro e w9 ⟨rfl, oy1, hI9, ho1, ho2, hK9⟩
              have HY9 := Aside0.mk (HY8.out.put hI9 ho2 hK9)
              have HX9 := Aside0.mk (HX8.out.beside hK9 (fun i h1 h2 => HD8.out i h1 h2) HY8.out.up)
              have HD9 : Aside0 (∀ i, ox1 i → ¬ oy1 i) := ⟨fun i h1 h2 => by
                rcases ho2 i h2 with h3 | h3
                · exact HD8.out i h1 h3
                · have := HX8.out.lt h1; omega⟩
              clear hI9 ho1 ho2 hK9 HX8 HY8 HD8
              rw [← foldl_take (putS (bnd n)) _ l.reverse k (by rw [List.length_reverse]; exact hlt) z HZR.out] at HY9
              go_wp2_with fail
              go_roundw
              case rel => exact ⟨k + 1, ox1, oy1, by omega, by go_num, HS1, HN1, HX9, HY9, HD9⟩
              case measure => simp [intOf]; omega
    · have hil : i = l.length := by omega
      subst hil
      rw [List.take_length] at HXr
      rw [show l.reverse.take l.length = l.reverse from List.take_of_length_le (by simp)] at HYr
      have hf := HF.out (fun k hk => by
        obtain ⟨j, hj, e⟩ := List.getElem_of_mem hk
        rw [← e]
        exact (HS.out j hj hj).1) H60.out (fun k hk => by
        obtain ⟨j, hj, e⟩ := List.getElem_of_mem hk
        rw [← e]
        exact (HS.out j hj hj).2) (fun i k hi hk => HN.out i k hi hk hi)
      have HF1 := Aside0.mk hf
      clear hf HS HN
      obtain ⟨X, hX⟩ : ∃ X, l.foldl (putS (bnd n)) (putS (bnd n) ix0 (ofSelf sf b)) = X := ⟨_, rfl⟩
      obtain ⟨Y, hY⟩ : ∃ Y, l.reverse.foldl (putS (bnd n)) ix0 = Y := ⟨_, rfl⟩
      rw [hX, hY] at HF1
      rw [hX] at HXr
      rw [hY] at HYr
      clear hX hY
      have N3 := HXr.out.cell HL1'.out (by omega)
      have N4 := HXr.out.cell HL2'.out (by omega)
      have hS : ∀ w', Below wr.heap.size wr w' → w'.cell? ⟨w.heap.size, 0, none⟩ = some (.int .i64 c.f0) ∧ w'.cell? ⟨w.heap.size, 1, none⟩ = some (.int .i64 c.f1) ∧ w'.cell? ⟨w.heap.size, 2, none⟩ = some (.int .i64 c.f2) ∧ w'.cell? ⟨w.heap.size, 3, none⟩ = some (.int .i64 c.f3) ∧ w'.cell? ⟨w.heap.size, 4, none⟩ = some (.int .i64 c.f4) ∧ w'.cell? ⟨w.heap.size, 5, none⟩ = some (.string c.f5) ∧
          w'.cell? ⟨w.heap.size + 1, 0, none⟩ = some (.int .i64 sf.f0) ∧ w'.cell? ⟨w.heap.size + 1, 1, none⟩ = some (.int .i64 sf.f1) := fun w' hb =>
        ⟨pw_cell_below hb (blk_cell N3 0), pw_cell_below hb (blk_cell N3 1), pw_cell_below hb (blk_cell N3 2), pw_cell_below hb (blk_cell N3 3), pw_cell_below hb (blk_cell N3 4), pw_cell_below hb (blk_cell N3 5), pw_cell_below hb (blk_cell N4 0), pw_cell_below hb (blk_cell N4 1)⟩
      have hm := bnd_in n
      have hlx : (attrP (bnd n) X.2 c sf).2.length ≤ 7 := by rw [attr_len]; omega
      have hly : (attrP (bnd n) Y.2 c sf).2.length ≤ 7 := by rw [attr_len]; omega
      clear N3 N4
      go_wp2_with fail
      go_region_held3 (fun w' => w'.cell? ⟨w.heap.size, 0, none⟩ = some (.int .i64 c.f0) ∧ w'.cell? ⟨w.heap.size, 1, none⟩ = some (.int .i64 c.f1) ∧ w'.cell? ⟨w.heap.size, 2, none⟩ = some (.int .i64 c.f2) ∧ w'.cell? ⟨w.heap.size, 3, none⟩ = some (.int .i64 c.f3) ∧ w'.cell? ⟨w.heap.size, 4, none⟩ = some (.int .i64 c.f4) ∧ w'.cell? ⟨w.heap.size, 5, none⟩ = some (.string c.f5) ∧
          w'.cell? ⟨w.heap.size + 1, 0, none⟩ = some (.int .i64 sf.f0) ∧ w'.cell? ⟨w.heap.size + 1, 1, none⟩ = some (.int .i64 sf.f1))
        (first | exact hS _ hbS | exact hS _ hbU | exact hS _ hbT | exact hS _ (below_drew (Below.refl _ _)))
        (first
          | (go_at_call 18; refine (attr_Same.calls _ _ _ _ _ _ _ _ true _ hCT2 hcT hCU hcU ((attr_Same.eq _ _ _ _).trans (congrArg some HF1.out))).mono ?_; rintro e wS ⟨rfl, hbS0⟩; have hbS : Below wr.heap.size wr wS := below_step hbU hbS0; clear hbS0)
          | (go_at_call 16; refine (index_Attr.calls gy oy (bnd n) Y.1 Y.2 c sf _ (HYr.out.ix.below hbT) hm HYr.out.gb).mono ?_; rintro e wU ⟨vU, rfl, hRU, hbU0⟩; have hbU : Below wr.heap.size wr wU := below_step hbT hbU0; obtain ⟨AU, cU, rfl, hcU, hCU⟩ := Kd.R_reads hRU; have hCT2 := Kd.C_below hCT hbU0; clear hRU hbU0)
          | (go_at_call 16; refine (index_Attr.calls gx ox (bnd n) X.1 X.2 c sf _ (HXr.out.ix.below (below_drew (Below.refl _ _))) hm HXr.out.gb).mono ?_; rintro e wT ⟨vT, rfl, hRT, hbT0⟩; have hbT : Below wr.heap.size wr wT := below_step (below_drew (Below.refl _ _)) hbT0; obtain ⟨AT, cT, rfl, hcT, hCT⟩ := Kd.R_reads hRT; clear hRT hbT0))
      rename_i hHeld_
      clear hHeld_ hS hbU hbT hCU hCT2 hcU hcT
      have hEnd := HWr.out.trans (hbS.mono (HWr.out.size))
      go_wp2_with fail
      go_ret
      exact ⟨rfl, hEnd⟩
end Go.Proofs.Ytgenfbpaooeofaa.P
