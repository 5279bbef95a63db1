/- The walk of the law IndexRuns. No condition but each theorem's own. -/
import Derived.Test.YtgenfbpaooeofaaPx0
import Derived.Test.YtgenfbpaooeofaaPx5
import Derived.Test.YtgenfbpaooeofaaPx6
import Derived.Test.YtgenfbpaooeofaaPx8
import Derived.Test.YtgenfbpaooeofaaPx9
import Derived.Test.YtgenfbpaooeofaaPx10
import Derived.Test.YtgenfbpaooeofaaIdxW
import Derived.Test.YtgenfbpaooeofaaAttrW
import Derived.Test.YtgenfbpaooeofaaLawIndexOf
namespace Go.Proofs.Ytgenfbpaooeofaa.P
open Go.RowKit Go.Proofs.YtgenfbpaooeofaaW.PrintWords Go.Proofs.YtgenfbpaooeofaaW.PrintLast Go.Proofs.YtgenfbpaooeofaaW.PrintMore
set_option linter.unusedVariables false
set_option linter.unusedSimpArgs false
/-- the document's Put -/
def refP (m : Int) (l : List S29) (k : S29) : List S29 := if mayI m k.f0 = true then l.filter (fun x => !(decide (x.f0 = k.f0))) ++ [k] else l
theorem neB (p q : S26) : (!(p.f0 == q.f0) || (!(p.f1 == q.f1))) = !(decide (p = q)) := by
  by_cases h : p = q
  · subst h; simp
  · rw [decide_eq_false h]
    by_cases h1 : p.f0 = q.f0 <;> by_cases h2 : p.f1 = q.f1 <;> simp [h1, h2]
    exact h (by cases p; cases q; simp_all)
theorem refPut_l0 (l : List S29) (hl : l.length ≤ 60) (k : S29) : ∀ (d i : Nat) (acc : List S29) (K : Nat), l.length - i ≤ d → i ≤ l.length → acc.length ≤ i → d + 1 ≤ K →
    colloquyref08_Put.l0 K l acc (i : Int) k.f0.f0 k.f0.f1 k.f1.f0 k.f1.f1 k.f1.f2 k.f1.f3 k.f1.f4 k.f1.f5 k.f2 = some (acc ++ (l.drop i).filter (fun x => !(decide (x.f0 = k.f0))) ++ [k]) := by
  intro d
  induction d with
  | zero =>
    intro i acc K hd hi ha hK
    obtain ⟨K, rfl⟩ : ∃ q, K = q + 1 := ⟨K - 1, by omega⟩
    have : i = l.length := by omega
    subst this
    simp only [colloquyref08_Put.l0]
    rw [if_neg (by omega), if_pos (by omega), List.drop_length]
    simp
  | succ d ih =>
    intro i acc K hd hi ha hK
    by_cases hlt : i < l.length
    · obtain ⟨K, rfl⟩ : ∃ q, K = q + 1 := ⟨K - 1, by omega⟩
      have hw : wrap64 ((i : Int) + 1) = ((i + 1 : Nat) : Int) := by unfold wrap64; omega
      simp only [colloquyref08_Put.l0]
      rw [if_pos (by omega), if_pos (by omega), rdTK_at l i hlt, hw, neB]
      rw [List.drop_eq_getElem_cons hlt]
      by_cases h : l[i].f0 = k.f0
      · have e : ¬ (!(decide (l[i].f0 = k.f0))) = true := by simp [h]
        rw [if_neg e, List.filter_cons_of_neg (by exact e)]
        exact ih (i + 1) acc K (by omega) (by omega) (by omega) (by omega)
      · have e : (!(decide (l[i].f0 = k.f0))) = true := by simp [h]
        rw [if_pos e, List.filter_cons_of_pos (by exact e), if_pos (by omega)]
        have := ih (i + 1) (acc ++ [l[i]]) K (by omega) (by omega) (by rw [List.length_append]; show acc.length + 1 ≤ i + 1; omega) (by omega)
        rw [List.append_assoc acc [l[i]]] at this
        exact this
    · exact ih i acc K (by omega) hi ha (by omega)
theorem refPut_eq (n : Int) (l : List S29) (hl : l.length ≤ 60) (k : S29) (K : Nat) (hK : 100 ≤ K) : colloquyref08_Put.f K l k.f0.f0 k.f0.f1 k.f1.f0 k.f1.f1 k.f1.f2 k.f1.f3 k.f1.f4 k.f1.f5 k.f2 n = some (refP (bnd n) l k) := by
  unfold colloquyref08_Put.f refP
  rw [refBnd, Option.bind_some, refMayI, Option.bind_some]
  by_cases h : mayI (bnd n) k.f0 = true
  · rw [if_pos h, if_pos h]
    have := refPut_l0 l hl k l.length 0 [] K (by omega) (by omega) (by simp) (by omega)
    rw [List.drop_zero, List.nil_append] at this
    exact this
  · rw [if_neg h, if_neg h]
set_option maxHeartbeats 8000000 in
set_option maxRecDepth 100000 in
theorem IndexRuns.calls (A0 : Option Addr) (c0 : Nat) (l : List S29) (c : S24) (sf : S26) (n : Int) (w : World) (hr0 : Kd.C k29 w A0 l.length l) (hc0 : l.length ≤ c0)
    (hfin : l.length ≤ 60 → ∀ i, i ≤ l.length → (∀ k ∈ l.take i, k.f2 ≤ 1099511627776) → ((l.take i).foldl (refP (bnd n)) []).length ≤ i ∧ (∀ k ∈ (l.take i).foldl (refP (bnd n)) [], k.f2 ≤ 1099511627776) ∧
      attrP (bnd n) ((l.take i).foldl (putS (bnd n)) ix0).2 c sf = ofP (bnd n) ((l.take i).foldl (refP (bnd n)) []) c sf ∧ ((l.take i).foldl (putS (bnd n)) ix0).1.length = ((l.take i).foldl (refP (bnd n)) []).length) :
    Calls Try.prog 4 #[.slice A0 l.length c0, .agg #[.int .i64 c.f0, .int .i64 c.f1, .int .i64 c.f2, .int .i64 c.f3, .int .i64 c.f4, .string c.f5], insV sf, .int .i64 n] w fun e w' => e = .returned (.bool true) ∧ Below w.heap.size w w' := by
  have HF := Aside0.mk hfin
  clear hfin
  have hlen : l.length ≤ 9223372036854775807 := hr0.2.1
  have HR0 := Aside0.mk hr0
  clear hr0
  obtain ⟨M1, M2, HSZ, HB⟩ := two_ w (.cells #[.int .i64 c.f0, .int .i64 c.f1, .int .i64 c.f2, .int .i64 c.f3, .int .i64 c.f4, .string c.f5] 24) (.cells #[.int .i64 sf.f0, .int .i64 sf.f1] 26)
  unfold insV
  go_enter Try.func4, Try.ntmps4
  go_wp2_with fail
  generalize (w.alloc (.cells #[.int .i64 c.f0, .int .i64 c.f1, .int .i64 c.f2, .int .i64 c.f3, .int .i64 c.f4, .string c.f5] 24)).alloc (.cells #[.int .i64 sf.f0, .int .i64 sf.f1] 26) = w0 at M1 M2 HSZ HB ⊢
  refine (colloquylaw08_awake.calls true w0 rfl).mono ?_
  rintro e wA ⟨rfl, hbA⟩
  have HBA := Aside0.mk hbA
  clear hbA
  go_wp2_with fail
  refine (index_New.calls n wA).mono ?_
  rintro e w6 ⟨gx, ownx, rfl, hIX, hownx, hbX⟩
  have H0Y : Below w0.heap.size w0 w6 := below_step HBA.out hbX
  have L1 := (H0Y.block _ (blk_lt M1.out)).trans M1.out
  have L2 := (H0Y.block _ (blk_lt M2.out)).trans M2.out
  have hBA : w.heap.size + 2 ≤ wA.heap.size := by have h1 := HSZ.out; have h2 := HBA.out.size; omega
  have HW6 := Aside0.mk (below_step HB.out H0Y)
  have HX := Aside0.mk (show Ix1 wA.heap.size w6 w6 gx ownx (bnd n) ix0 from ⟨Below.refl _ _, hbX.size, hIX, hownx, GB.nil _⟩)
  have HL1 := Aside0.mk L1
  have HL2 := Aside0.mk L2
  clear hIX hownx hbX H0Y HBA HB M1 M2 HSZ L1 L2
  generalize wA.heap.size = B at HX hBA
  go_wp2_with fail
  · go_ret
    exact ⟨rfl, HW6.out⟩
  have hl60 : l.length ≤ 60 := by omega
  have HG := Aside0.mk (HF.out hl60)
  clear HF
  have HV0 := Aside0.mk (Kd.V_nil k29 29 w6 0 (fun k => ¬ ownx k))
  go_loopw [12, 11] (fun v12 v11 wr => ∃ (i : Nat) (ox : Nat → Prop), i ≤ l.length ∧ v12 = .int .i64 i ∧ Aside0 (∀ k ∈ l.take i, k.f2 ≤ 1099511627776) ∧ Aside0 (Ix1 B w6 wr gx ox (bnd n) ((l.take i).foldl (putS (bnd n)) ix0)) ∧ Aside0 (Kd.V k29 29 wr 0 (fun k => ¬ ox k) v11 ((l.take i).foldl (refP (bnd n)) []))) (fun v12 _ _ => l.length - (intOf v12).toNat)
  case atStart => exact ⟨0, ownx, by omega, rfl, ⟨fun j h => by simp at h⟩, HX, HV0⟩
  case round =>
    clear HX HV0
    obtain ⟨i, ox, hi, rfl, HS, HXr, HVr⟩ := hrel
    have HWr := Aside0.mk (HW6.out.trans (HXr.out.bel.mono (by omega)))
    by_cases hlt : i < l.length
    · obtain ⟨ad', e0, hx0, hx1, hx2, hx3, hx4, hx5, hx6, hx7, hx8⟩ := at_T29 (Kd.C_below HR0.out (HWr.out)) (i : Int) (by omega) (by omega)
      cases e0
      obtain ⟨y, hy⟩ : ∃ y, rd_T29 l (i : Int) = y := ⟨_, rfl⟩
      simp only [hy, Int.toNat_natCast] at hx0 hx1 hx2 hx3 hx4 hx5 hx6 hx7 hx8
      have HYY : Aside0 (l[i]'hlt = y) := ⟨by rw [← hy, rdT29_at l i hlt]⟩
      clear hy
      go_wp2_with fail
      · go_ret
        exact ⟨rfl, HWr.out⟩
      have HS1 : Aside0 (∀ k ∈ l.take (i + 1), k.f2 ≤ 1099511627776) := ⟨fun k hk => by
        rw [List.take_succ_eq_append_getElem hlt, HYY.out] at hk
        rcases List.mem_append.1 hk with h | h
        · exact HS.out k h
        · rw [List.mem_singleton.1 h]; omega⟩
      obtain ⟨g1, g2, g3, g4⟩ := HG.out (i + 1) (by omega) HS1.out
      have HG1 := Aside0.mk g2
      have HG2 := Aside0.mk g3
      have HG3 := Aside0.mk g4
      have hal1 : ((l.take (i + 1)).foldl (refP (bnd n)) []).length ≤ 60 := by omega
      have hal0 : ((l.take i).foldl (refP (bnd n)) []).length ≤ 60 := by have := (HG.out i (by omega) HS.out).1; omega
      clear g1 g2 g3 g4 hx0 hx1 hx2 hx3 hx4 hx5 hx6 hx7 hx8 HS
      refine (index_Put.calls gx ox (bnd n) _ _ y wr HXr.out.ix).mono ?_
      rintro e w8 ⟨rfl, ox1, hI8, ho1, ho2, hK8⟩
      have HX8 := Aside0.mk (HXr.out.put hI8 ho2 hK8)
      have HV8 : Aside0 (Kd.V k29 29 w8 0 (fun k => ¬ ox1 k) _ ((l.take i).foldl (refP (bnd n)) [])) := ⟨Kd.V_mono (Kd.V_step (Kd.V_bound HVr.out) (fun k hk _ => hK8.block k hk.2 hk.1)) (fun k hk h => by
        rcases ho2 k h with h3 | h3
        · exact hk.1 h3
        · have := hk.2; omega)⟩
      clear hI8 ho1 ho2 hK8 HXr HVr
      rw [← foldl_take (putS (bnd n)) _ l i hlt y HYY.out] at HX8
      have HW8 := Aside0.mk (HW6.out.trans (HX8.out.bel.mono (by omega)))
      obtain ⟨A1, cc1, rfl⟩ := Kd.V_slice HV8.out
      obtain ⟨al0, hal⟩ : ∃ al0, (l.take i).foldl (refP (bnd n)) [] = al0 := ⟨_, rfl⟩
      have halS : (l.take (i + 1)).foldl (refP (bnd n)) [] = refP (bnd n) al0 y := by rw [foldl_take (refP (bnd n)) _ l i hlt y HYY.out, hal]
      rw [hal] at HV8 hal0 ⊢
      have HALS := Aside0.mk halS
      clear hal halS
      obtain ⟨ad2, e0, hx0, hx1, hx2, hx3, hx4, hx5, hx6, hx7, hx8⟩ := at_T29 (Kd.C_below HR0.out (HW8.out)) (i : Int) (by omega) (by omega)
      cases e0
      have hy : rd_T29 l (i : Int) = y := by rw [rdT29_at l i hlt]; exact HYY.out
      simp only [hy, Int.toNat_natCast] at hx0 hx1 hx2 hx3 hx4 hx5 hx6 hx7 hx8
      clear hy
      go_wp2_with fail
      clear hx0 hx1 hx2 hx3 hx4 hx5 hx6 hx7 hx8
      refine (colloquyref08_Put.calls 100 (fun k => ¬ ox1 k) A1 cc1 al0 _ _ _ _ _ _ _ _ _ n _ w8 HV8.out (refPut_eq n al0 hal0 y 100 (by omega))).mono ?_
      rintro e w9 ⟨v9, rfl, hV9, hb9⟩
      have HX9 := Aside0.mk (HX8.out.below hb9)
      have HV9 : Aside0 (Kd.V k29 29 w9 0 (fun k => ¬ ox1 k) v9 (refP (bnd n) al0 y)) := ⟨Kd.V_mono hV9 (fun k hk h => by
        rcases hk with h3 | h3
        · exact h3 h
        · have := HX8.out.lt h; omega)⟩
      have HW9 := Aside0.mk (below_step HW8.out hb9)
      clear hV9 hb9 HX8 HV8 HW8
      obtain ⟨A2, cc2, rfl⟩ := Kd.V_slice HV9.out
      rw [HALS.out] at hal1 HG1 HG2 HG3
      obtain ⟨al1, hal⟩ : ∃ al1, refP (bnd n) al0 y = al1 := ⟨_, rfl⟩
      rw [hal] at HV9 hal1 HG1 HG2 HG3 HALS ⊢
      clear hal
      obtain ⟨X, hX⟩ : ∃ X, (l.take (i + 1)).foldl (putS (bnd n)) ix0 = X := ⟨_, rfl⟩
      rw [hX] at HX9 HG2 HG3
      have HXE := Aside0.mk hX
      clear hX
      have N1 := HX9.out.cell HL1.out (by omega)
      have N2 := HX9.out.cell HL2.out (by omega)
      have b0 := blk_cell N1 0
      have b1 := blk_cell N1 1
      have b2 := blk_cell N1 2
      have b3 := blk_cell N1 3
      have b4 := blk_cell N1 4
      have b5 := blk_cell N1 5
      have s0 := blk_cell N2 0
      have s1 := blk_cell N2 1
      simp only [List.getElem?_toArray, List.getElem?_cons_zero, List.getElem?_cons_succ] at b0 b1 b2 b3 b4 b5 s0 s1
      have HN1 := Aside0.mk N1
      have HN2 := Aside0.mk N2
      clear N1 N2
      go_wp2_with fail
      clear b0 b1 b2 b3 b4 b5 s0 s1
      refine (index_Attr.calls gx ox1 (bnd n) X.1 X.2 c sf w9 HX9.out.ix (bnd_in n) HX9.out.gb).mono ?_
      rintro e wT ⟨vT, rfl, hRT, hbT⟩
      obtain ⟨AT, cT, rfl, hcT, hCT⟩ := Kd.R_reads hRT
      clear hRT
      obtain ⟨r, hr⟩ : ∃ r, attrP (bnd n) X.2 c sf = r := ⟨_, rfl⟩
      have hr7 : r.2.length ≤ 7 := by rw [← hr, attr_len]; have := bnd_in n; omega
      rw [hr] at HG2 hcT hCT ⊢
      clear hr
      have hb1 := below_alloc (Below.refl wT.heap.size wT) (.cells #[.int .i64 r.1, .slice AT r.2.length cT] 32)
      have hn1 := heap_alloc_new wT (.cells #[.int .i64 r.1, .slice AT r.2.length cT] 32)
      have hC1 := Kd.C_below hCT hb1
      have hbZ : Below w9.heap.size w9 (wT.alloc (.cells #[.int .i64 r.1, .slice AT r.2.length cT] 32)) := below_step hbT hb1
      have N1 := (hbZ.block _ (blk_lt HN1.out)).trans HN1.out
      have N2 := (hbZ.block _ (blk_lt HN2.out)).trans HN2.out
      have b0 := blk_cell N1 0
      have b1 := blk_cell N1 1
      have b2 := blk_cell N1 2
      have b3 := blk_cell N1 3
      have b4 := blk_cell N1 4
      have b5 := blk_cell N1 5
      have s0 := blk_cell N2 0
      have s1 := blk_cell N2 1
      simp only [List.getElem?_toArray, List.getElem?_cons_zero, List.getElem?_cons_succ] at b0 b1 b2 b3 b4 b5 s0 s1
      clear N1 N2
      go_wp2_with fail
      clear b0 b1 b2 b3 b4 b5 s0 s1
      obtain ⟨bz, hbz⟩ : ∃ bz, wT.heap.size = bz := ⟨_, rfl⟩
      rw [hbz] at hn1 ⊢
      generalize wT.alloc (.cells #[.int .i64 r.1, .slice AT r.2.length cT] 32) = wZ at hn1 hC1 hbZ ⊢
      have HXZ := Aside0.mk (HX9.out.below hbZ)
      have HVZ := Aside0.mk (Kd.V_below HV9.out hbZ)
      have HWZ := Aside0.mk (below_step HW9.out hbZ)
      have HBZ := Aside0.mk hn1
      have HCZ := Aside0.mk hC1
      clear hbZ hb1 hC1 hn1 hbz hCT hbT HX9 HV9 HW9 HN1 HN2
      obtain ⟨hv1, hv2, hv3⟩ := Kd.V_reads' HVZ.out
      refine (colloquyref08_Of.calls 200 A2 cc2 al1 c.f0 c.f1 c.f2 c.f3 c.f4 c.f5 sf.f0 sf.f1 n r.1 r.2 wZ hv3 hv2 (by rw [refOf_eq n al1 hal1 c sf HG1.out 200 (by omega), ← HG2.out])).mono ?_
      rintro e wT ⟨vT, rfl, hRT, hbT⟩
      obtain ⟨AU, cU, rfl, hcU, hCU⟩ := Kd.R_reads hRT
      clear hRT hv1 hv2 hv3
      have hb1 := below_alloc (Below.refl wT.heap.size wT) (.cells #[.int .i64 r.1, .slice AU r.2.length cU] 32)
      have hn1 := heap_alloc_new wT (.cells #[.int .i64 r.1, .slice AU r.2.length cU] 32)
      have hC1 := Kd.C_below hCU hb1
      have hbZ : Below wZ.heap.size wZ (wT.alloc (.cells #[.int .i64 r.1, .slice AU r.2.length cU] 32)) := below_step hbT hb1
      obtain ⟨wU, hwU⟩ : ∃ wU, wT.alloc (.cells #[.int .i64 r.1, .slice AU r.2.length cU] 32) = wU := ⟨_, rfl⟩
      rw [hwU] at hn1 hC1 hbZ
      have HXU := Aside0.mk (HXZ.out.below hbZ)
      have HVU := Aside0.mk (Kd.V_below HVZ.out hbZ)
      have HWU := Aside0.mk (below_step HWZ.out hbZ)
      have HCZ2 := Aside0.mk (Kd.C_below HCZ.out hbZ)
      have HBZ2 := Aside0.mk ((hbZ.block _ (blk_lt HBZ.out)).trans HBZ.out)
      have z0 := blk_cell HBZ2.out 0
      have z1 := blk_cell HBZ2.out 1
      have y0 := blk_cell hn1 0
      have y1 := blk_cell hn1 1
      simp only [List.getElem?_toArray, List.getElem?_cons_zero, List.getElem?_cons_succ] at z0 z1 y0 y1
      have HBU := Aside0.mk hn1
      have HCU := Aside0.mk hC1
      clear hbZ hb1 hC1 hn1 hCU hbT HXZ HVZ HWZ HBZ HCZ
      go_wp2_with fail
      obtain ⟨K0, hK0⟩ := ref_Same.ev r.1 r.2 r.1 r.2 (by omega) (by omega)
      have hsame : colloquyref06_Same.f K0 r.1 r.2 r.1 r.2 = some true := by
        have := hK0 K0 (Nat.le_refl _)
        rw [sm_refl] at this
        exact this
      clear hK0
      refine (colloquyref06_Same.calls K0 r.1 AT cT r.2 r.1 AU cU r.2 true wU HCZ2.out hcT HCU.out hcU hsame).mono ?_
      rintro e wS ⟨rfl, hbS⟩
      have z1 := pw_cell_below hbS z1
      have y1 := pw_cell_below hbS y1
      have HXS := Aside0.mk (HXU.out.below hbS)
      have HVS := Aside0.mk (Kd.V_below HVU.out hbS)
      have HWS := Aside0.mk (below_step HWU.out hbS)
      clear hbS hsame HXU HVU HWU HCZ2 HBZ2 HBU HCU z0 y0
      go_wp2_with fail
      refine (index_Len.calls gx ox1 (bnd n) X.1 X.2 wS HXS.out.ix).mono ?_
      rintro e wL ⟨rfl, rfl⟩
      rw [HG3.out]
      go_wp2_with fail
      go_roundw
      case rel => exact ⟨i + 1, ox1, by omega, by go_num, HS1, by rw [HXE.out]; exact HXS, by rw [HALS.out]; exact HVS⟩
      case measure => simp [intOf]; omega
    · go_wp2_with fail
      go_ret
      exact ⟨rfl, HWr.out⟩
end Go.Proofs.Ytgenfbpaooeofaa.P
