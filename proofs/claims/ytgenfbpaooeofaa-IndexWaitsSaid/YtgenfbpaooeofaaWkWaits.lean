/- The walk of the law IndexWaits. No condition but each theorem's own. -/
import Derived.Test.YtgenfbpaooeofaaPx0
import Derived.Test.YtgenfbpaooeofaaPx4
import Derived.Test.YtgenfbpaooeofaaPx5
import Derived.Test.YtgenfbpaooeofaaPx6
import Derived.Test.YtgenfbpaooeofaaPx10
import Derived.Test.YtgenfbpaooeofaaIdxS
import Derived.Test.YtgenfbpaooeofaaIdxW
namespace Go.Proofs.Ytgenfbpaooeofaa.P
open Go.RowKit Go.Proofs.YtgenfbpaooeofaaW.PrintWords Go.Proofs.YtgenfbpaooeofaaW.PrintLast Go.Proofs.YtgenfbpaooeofaaW.PrintMore
set_option linter.unusedVariables false
set_option linter.unusedSimpArgs false
/-- all but those of an instance are put -/
def putB (m : Int) (i0 : S26) (s : Ixs) (k : S29) : Ixs := if k.f0 = i0 then s else putS m s k
theorem inst_eq (p q : S26) (h0 : p.f0 = q.f0) (h1 : p.f1 = q.f1) : p = q := by cases p; cases q; simp_all
theorem instB (p q : S26) : (p.f0 == q.f0 && (p.f1 == q.f1)) = decide (p = q) := by
  by_cases h : p = q
  · subst h; simp
  · rw [decide_eq_false h]
    cases hq : (p.f0 == q.f0 && (p.f1 == q.f1)) with
    | false => rfl
    | true =>
      simp only [Bool.and_eq_true, beq_iff_eq] at hq
      exact absurd (inst_eq _ _ hq.1 hq.2) h
attribute [local go_sem high] eqInst
set_option maxHeartbeats 8000000 in
set_option maxRecDepth 100000 in
theorem IndexWaits.calls (A0 : Option Addr) (c0 : Nat) (l : List S29) (a : S29) (c : S24) (sf : S26) (n : Int) (w : World) (hr0 : Kd.C k29 w A0 l.length l) (hc0 : l.length ≤ c0)
    (hfin : (∀ k ∈ l, k.f2 ≤ 1099511627776) → mayI (bnd n) a.f0 = true → a.f0 ≠ sf → interK a.f1 c = true → a.f2 ≤ 1099511627776 →
      attr_Waits.f (attrP (bnd n) (putS (bnd n) (l.foldl (putB (bnd n) a.f0) ix0) a).2 c sf).1 (attrP (bnd n) (putS (bnd n) (l.foldl (putB (bnd n) a.f0) ix0) a).2 c sf).2 a.f0.f0 a.f0.f1 = some true ∧
      a.f2 < (attrP (bnd n) (putS (bnd n) (l.foldl (putB (bnd n) a.f0) ix0) a).2 c sf).1) :
    Calls Try.prog 7 #[.slice A0 l.length c0, knV a, .agg #[.int .i64 c.f0, .int .i64 c.f1, .int .i64 c.f2, .int .i64 c.f3, .int .i64 c.f4, .string c.f5], insV sf, .int .i64 n] w fun e w' => e = .returned (.bool true) ∧ Below w.heap.size w w' := by
  have HF := Aside0.mk hfin
  clear hfin
  have hlen : l.length ≤ 9223372036854775807 := hr0.2.1
  have HR0 := Aside0.mk hr0
  clear hr0
  obtain ⟨M1, M2, M3, HSZ, HB⟩ := three w (.cells #[.int .i64 a.f0.f0, .int .i64 a.f0.f1, .int .i64 a.f1.f0, .int .i64 a.f1.f1, .int .i64 a.f1.f2, .int .i64 a.f1.f3, .int .i64 a.f1.f4, .string a.f1.f5, .int .i64 a.f2] 29)
    (.cells #[.int .i64 c.f0, .int .i64 c.f1, .int .i64 c.f2, .int .i64 c.f3, .int .i64 c.f4, .string c.f5] 24) (.cells #[.int .i64 sf.f0, .int .i64 sf.f1] 26)
  unfold insV knV
  go_enter Try.func7, Try.ntmps7
  go_wp2_with fail
  generalize (((w.alloc (.cells #[.int .i64 a.f0.f0, .int .i64 a.f0.f1, .int .i64 a.f1.f0, .int .i64 a.f1.f1, .int .i64 a.f1.f2, .int .i64 a.f1.f3, .int .i64 a.f1.f4, .string a.f1.f5, .int .i64 a.f2] 29)).alloc (.cells #[.int .i64 c.f0, .int .i64 c.f1, .int .i64 c.f2, .int .i64 c.f3, .int .i64 c.f4, .string c.f5] 24)).alloc (.cells #[.int .i64 sf.f0, .int .i64 sf.f1] 26)) = w0 at M1 M2 M3 HSZ HB ⊢
  refine (colloquylaw08_awake.calls true w0 rfl).mono ?_
  rintro e wA ⟨rfl, hbA⟩
  have HBA := Aside0.mk hbA
  clear hbA
  go_wp2_with fail
  refine (index_New.calls n wA).mono ?_
  rintro e w6 ⟨gx, ownx, rfl, hIX, hownx, hbX⟩
  have H0Y : Below w0.heap.size w0 w6 := below_step HBA.out hbX
  have L1 := (H0Y.block _ (blk_lt M1.out)).trans M1.out
  have L2 := (H0Y.block _ (blk_lt M2.out)).trans M2.out
  have L3 := (H0Y.block _ (blk_lt M3.out)).trans M3.out
  have hBA : w.heap.size + 3 ≤ wA.heap.size := by have h1 := HSZ.out; have h2 := HBA.out.size; omega
  have HW6 := Aside0.mk (below_step HB.out H0Y)
  have HX := Aside0.mk (show Ix1 wA.heap.size w6 w6 gx ownx (bnd n) ix0 from ⟨Below.refl _ _, hbX.size, hIX, hownx, GB.nil _⟩)
  have HL1 := Aside0.mk L1
  have HL2 := Aside0.mk L2
  have HL3 := Aside0.mk L3
  clear hIX hownx hbX H0Y HBA HB M1 M2 M3 HSZ L1 L2 L3
  generalize wA.heap.size = B at HX hBA
  go_wp2_with fail
  · go_ret
    exact ⟨rfl, HW6.out⟩
  rotate_left
  · go_ret
    exact ⟨rfl, HW6.out⟩
  · go_ret
    exact ⟨rfl, HW6.out⟩
  have hl60 : l.length ≤ 60 := by omega
  have hn : bnd n = n := by unfold bnd mn mx; omega
  rw [hn] at HX HF
  have hn7 : 1 ≤ n ∧ n ≤ 7 := by omega
  clear hn
  go_loopw [13] (fun v13 wr => ∃ (i : Nat) (ox : Nat → Prop), i ≤ l.length ∧ v13 = .int .i64 i ∧ Aside0 (∀ j (h : j < l.length), j < i → l[j].f2 ≤ 1099511627776) ∧ Aside0 (Ix1 B w6 wr gx ox n ((l.take i).foldl (putB n a.f0) ix0))) (fun v13 _ => l.length - (intOf v13).toNat)
  case atStart => exact ⟨0, ownx, by omega, rfl, ⟨fun j h h2 => by omega⟩, HX⟩
  case round =>
    clear HX
    obtain ⟨i, ox, hi, rfl, HS, HXr⟩ := hrel
    have HWr := Aside0.mk (HW6.out.trans (HXr.out.bel.mono (by omega)))
    have N1 := HXr.out.cell HL1.out (by omega)
    have a0 := blk_cell N1 0
    have a1 := blk_cell N1 1
    have a2 := blk_cell N1 2
    have a3 := blk_cell N1 3
    have a4 := blk_cell N1 4
    have a5 := blk_cell N1 5
    have a6 := blk_cell N1 6
    have a7 := blk_cell N1 7
    have a8 := blk_cell N1 8
    simp only [List.getElem?_toArray, List.getElem?_cons_zero, List.getElem?_cons_succ] at a0 a1 a2 a3 a4 a5 a6 a7 a8
    clear N1
    by_cases hlt : i < l.length
    · obtain ⟨ad', e0, hx0, hx1, hx2, hx3, hx4, hx5, hx6, hx7, hx8⟩ := at_T29 (Kd.C_below HR0.out (HWr.out)) (i : Int) (by omega) (by omega)
      cases e0
      obtain ⟨y, hy⟩ : ∃ y, rd_T29 l (i : Int) = y := ⟨_, rfl⟩
      simp only [hy, Int.toNat_natCast] at hx0 hx1 hx2 hx3 hx4 hx5 hx6 hx7 hx8
      have HYY : Aside0 (l[i]'hlt = y) := ⟨by rw [← hy, rdT29_at l i hlt]⟩
      clear hy a2 a3 a4 a5 a6 a7 a8
      have hse := instB y.f0 a.f0
      by_cases hsame : y.f0 = a.f0
      · rw [decide_eq_true hsame] at hse
        have hput : (l.take (i + 1)).foldl (putB n a.f0) ix0 = (l.take i).foldl (putB n a.f0) ix0 := by
          rw [foldl_take (putB n a.f0) ix0 l i hlt y HYY.out]
          unfold putB; rw [if_pos hsame]
        rw [← hput] at HXr
        clear hput
        go_wp2_with fail
        go_quiet (fail)
        have hb0 := pw_below_drewN (Below.refl wr.heap.size wr) nq
        have HXq := Aside0.mk (HXr.out.below hb0)
        have HWq := Aside0.mk (below_step HWr.out hb0)
        have hx8q := pw_cell_below hb0 hx8
        clear hx0 hx1 hx2 hx3 hx4 hx5 hx6 hx7 a0 a1 hse HXr HWr hb0 hx8
        generalize wr.drewN nq = wq at HXq HWq hx8q ⊢
        go_wp2_with fail
        · go_ret
          exact ⟨rfl, HWq.out⟩
        have HS1 : Aside0 (∀ j (h : j < l.length), j < i + 1 → l[j].f2 ≤ 1099511627776) := ⟨fun j h hj => by
          by_cases e : j = i
          · subst e; rw [HYY.out]; omega
          · exact HS.out j h (by omega)⟩
        go_roundw
        case rel => exact ⟨i + 1, ox, by omega, by go_num, HS1, HXq⟩
        case measure => simp [intOf]; omega
      · rw [decide_eq_false hsame] at hse
        go_wp2_with fail
        go_quiet (fail)
        have hb0 := pw_below_drewN (Below.refl wr.heap.size wr) nq
        have HXq := Aside0.mk (HXr.out.below hb0)
        have HWq := Aside0.mk (below_step HWr.out hb0)
        clear hx0 hx1 hx2 hx3 hx4 hx5 hx6 hx7 a0 a1 hse HXr HWr hb0 hx8
        generalize wr.drewN nq = wq at HXq HWq ⊢
        obtain ⟨ad', e0, hx0, hx1, hx2, hx3, hx4, hx5, hx6, hx7, hx8⟩ := at_T29 (Kd.C_below HR0.out (HWq.out)) (i : Int) (by omega) (by omega)
        cases e0
        have hy : rd_T29 l (i : Int) = y := by rw [rdT29_at l i hlt]; exact HYY.out
        simp only [hy, Int.toNat_natCast] at hx0 hx1 hx2 hx3 hx4 hx5 hx6 hx7 hx8
        go_wp2_with fail
        refine (index_Put.calls gx ox n _ _ y wq HXq.out.ix).mono ?_
        rintro e w8 ⟨rfl, ox1, hI8, ho1, ho2, hK8⟩
        have HX8 := Aside0.mk (HXq.out.put hI8 ho2 hK8)
        have hput : (l.take (i + 1)).foldl (putB n a.f0) ix0 = putS n ((l.take i).foldl (putB n a.f0) ix0) y := by
          rw [foldl_take (putB n a.f0) ix0 l i hlt y HYY.out]
          unfold putB; rw [if_neg hsame]
        rw [← hput] at HX8
        have HW8 := Aside0.mk (HW6.out.trans (HX8.out.bel.mono (by omega)))
        clear hput hI8 ho1 ho2 hK8 HXq HWq hx0 hx1 hx2 hx3 hx4 hx5 hx6 hx7 hx8
        obtain ⟨ad', e0, hx0, hx1, hx2, hx3, hx4, hx5, hx6, hx7, hx8⟩ := at_T29 (Kd.C_below HR0.out (HW8.out)) (i : Int) (by omega) (by omega)
        cases e0
        simp only [hy, Int.toNat_natCast] at hx8
        clear hy hx0 hx1 hx2 hx3 hx4 hx5 hx6 hx7
        go_wp2_with fail
        · go_ret
          exact ⟨rfl, HW8.out⟩
        have HS1 : Aside0 (∀ j (h : j < l.length), j < i + 1 → l[j].f2 ≤ 1099511627776) := ⟨fun j h hj => by
          by_cases e : j = i
          · subst e; rw [HYY.out]; omega
          · exact HS.out j h (by omega)⟩
        go_roundw
        case rel => exact ⟨i + 1, ox1, by omega, by go_num, HS1, HX8⟩
        case measure => simp [intOf]; omega
    · have hil : i = l.length := by omega
      subst hil
      rw [List.take_length] at HXr
      have HF1 := Aside0.mk (HF.out (fun k hk => by
        obtain ⟨j, hj, e⟩ := List.getElem_of_mem hk
        rw [← e]
        exact HS.out j hj hj))
      clear HS
      go_wp2_with fail
      clear a0 a1 a2 a3 a4 a5 a6 a7 a8
      refine (index_Put.calls gx ox n _ _ a wr HXr.out.ix).mono ?_
      rintro e w8 ⟨rfl, ox1, hI8, ho1, ho2, hK8⟩
      have HX8 := Aside0.mk (HXr.out.put hI8 ho2 hK8)
      have HW8 := Aside0.mk (HW6.out.trans (HX8.out.bel.mono (by omega)))
      clear hI8 ho1 ho2 hK8 HXr HWr
      obtain ⟨X, hX⟩ : ∃ X, putS n (l.foldl (putB n a.f0) ix0) a = X := ⟨_, rfl⟩
      rw [hX] at HF1
      rw [hX] at HX8
      clear hX
      have N1 := HX8.out.cell HL1.out (by omega)
      have N2 := HX8.out.cell HL2.out (by omega)
      have N3 := HX8.out.cell HL3.out (by omega)
      have a0 := blk_cell N1 0
      have a1 := blk_cell N1 1
      have a2 := blk_cell N1 2
      have a3 := blk_cell N1 3
      have a4 := blk_cell N1 4
      have a5 := blk_cell N1 5
      have a6 := blk_cell N1 6
      have a7 := blk_cell N1 7
      have a8 := blk_cell N1 8
      have b0 := blk_cell N2 0
      have b1 := blk_cell N2 1
      have b2 := blk_cell N2 2
      have b3 := blk_cell N2 3
      have b4 := blk_cell N2 4
      have b5 := blk_cell N2 5
      have s0 := blk_cell N3 0
      have s1 := blk_cell N3 1
      simp only [List.getElem?_toArray, List.getElem?_cons_zero, List.getElem?_cons_succ] at a0 a1 a2 a3 a4 a5 a6 a7 a8 b0 b1 b2 b3 b4 b5 s0 s1
      clear N1 N2 N3
      have hse := instB a.f0 sf
      by_cases h1 : 1 ≤ a.f0.f0
      · have d1 : decide (1 ≤ a.f0.f0) = true := decide_eq_true h1
        by_cases h2 : a.f0.f0 ≤ n
        · have d2 : decide (a.f0.f0 ≤ n) = true := decide_eq_true h2
          by_cases h3 : 1 ≤ a.f0.f1
          · have d3 : decide (1 ≤ a.f0.f1) = true := decide_eq_true h3
            by_cases h4 : a.f0.f1 ≤ 1048576
            · have d4 : decide (a.f0.f1 ≤ 1048576) = true := decide_eq_true h4
              by_cases hself : a.f0 = sf
              · rw [decide_eq_true hself] at hse
                clear hself
                go_wp2_with fail
                go_ret
                exact ⟨rfl, HW8.out⟩
              · rw [decide_eq_false hself] at hse
                go_wp2_with fail
                clear a0 a1 a2 a3 a4 a5 a6 a7 b0 b1 b2 b3 b4 b5 s0 s1
                refine (keys_Interfere.calls _ _ _ _ _ _ _ _ _ _ _ _ _ w8 (inter_f a.f1 c)).mono ?_
                rintro e w9 ⟨rfl, hb9⟩
                have a8 := pw_cell_below hb9 a8
                have HX9 := Aside0.mk (HX8.out.below hb9)
                have HW9 := Aside0.mk (below_step HW8.out hb9)
                clear hb9 HX8 HW8
                cases hint : interK a.f1 c with
                | false =>
                  go_wp2_with fail
                  go_ret
                  exact ⟨rfl, HW9.out⟩
                | true =>
                  have N1 := HX9.out.cell HL1.out (by omega)
                  have N2 := HX9.out.cell HL2.out (by omega)
                  have N3 := HX9.out.cell HL3.out (by omega)
                  have b0 := blk_cell N2 0
                  have b1 := blk_cell N2 1
                  have b2 := blk_cell N2 2
                  have b3 := blk_cell N2 3
                  have b4 := blk_cell N2 4
                  have b5 := blk_cell N2 5
                  have s0 := blk_cell N3 0
                  have s1 := blk_cell N3 1
                  simp only [List.getElem?_toArray, List.getElem?_cons_zero, List.getElem?_cons_succ] at b0 b1 b2 b3 b4 b5 s0 s1
                  clear N2 N3
                  have HN1 := Aside0.mk N1
                  clear N1
                  go_wp2_with fail
                  · go_ret
                    exact ⟨rfl, HW9.out⟩
                  have hm : mayI n a.f0 = true := by unfold mayI; rw [d1, d2, d3, d4]; rfl
                  have hf := HF1.out hm hself hint (by omega)
                  have HF2 := Aside0.mk hf
                  clear hf HF1 b0 b1 b2 b3 b4 b5 s0 s1 a8 hse d1 d2 d3 d4
                  refine (index_Attr.calls gx ox1 n X.1 X.2 c sf w9 HX9.out.ix hn7 HX9.out.gb).mono ?_
                  rintro e wT ⟨vT, rfl, hRT, hbT⟩
                  obtain ⟨AT, cT, rfl, hcT, hCT⟩ := Kd.R_reads hRT
                  clear hRT
                  obtain ⟨r, hr⟩ : ∃ r, attrP n X.2 c sf = r := ⟨_, rfl⟩
                  rw [hr] at HF2 hcT hCT ⊢
                  have hb1 := below_alloc (Below.refl wT.heap.size wT) (.cells #[.int .i64 r.1, .slice AT r.2.length cT] 32)
                  have hn1 := heap_alloc_new wT (.cells #[.int .i64 r.1, .slice AT r.2.length cT] 32)
                  have hC1 := Kd.C_below hCT hb1
                  have hb9 : Below w9.heap.size w9 (wT.alloc (.cells #[.int .i64 r.1, .slice AT r.2.length cT] 32)) := below_step hbT hb1
                  have N1 := (hb9.block _ (blk_lt HN1.out)).trans HN1.out
                  have HWZ := Aside0.mk (below_step HW9.out hb9)
                  obtain ⟨bz, hbz⟩ : ∃ bz, wT.heap.size = bz := ⟨_, rfl⟩
                  rw [hbz] at hn1
                  have z0 := blk_cell hn1 0
                  have z1 := blk_cell hn1 1
                  have a0 := blk_cell N1 0
                  have a1 := blk_cell N1 1
                  have a8 := blk_cell N1 8
                  simp only [List.getElem?_toArray, List.getElem?_cons_zero, List.getElem?_cons_succ] at z0 z1 a0 a1 a8
                  go_wp2_with fail
                  refine (attr_Waits.calls _ _ _ _ _ _ true _ hC1 hcT HF2.out.1).mono ?_
                  rintro e wV ⟨rfl, hbV⟩
                  have z0 := pw_cell_below hbV z0
                  have a8 := pw_cell_below hbV a8
                  have hEnd := below_step HWZ.out hbV
                  have hgt : decide (r.1 > a.f2) = true := decide_eq_true HF2.out.2
                  have hgt2 : decide (a.f2 < r.1) = true := decide_eq_true HF2.out.2
                  clear hbV hC1 hcT hCT hbT hb1 hn1 z1 a0 a1 N1 hb9
                  go_wp2_with fail
                  go_ret
                  exact ⟨rfl, hEnd⟩
            · have d4 : decide (a.f0.f1 ≤ 1048576) = false := decide_eq_false h4
              go_wp2_with fail
              go_ret
              exact ⟨rfl, HW8.out⟩
          · have d3 : decide (1 ≤ a.f0.f1) = false := decide_eq_false h3
            go_wp2_with fail
            go_ret
            exact ⟨rfl, HW8.out⟩
        · have d2 : decide (a.f0.f0 ≤ n) = false := decide_eq_false h2
          go_wp2_with fail
          go_ret
          exact ⟨rfl, HW8.out⟩
      · have d1 : decide (1 ≤ a.f0.f0) = false := decide_eq_false h1
        go_wp2_with fail
        go_ret
        exact ⟨rfl, HW8.out⟩
end Go.Proofs.Ytgenfbpaooeofaa.P
