/- Plain Lean functions and their contracts over the translation, written by a program of this session (myprint.py, over the kit's print); no condition but each contract's own. -/
import Derived.Test.YtomgiaakhpemaaaPx0
import Derived.Test.YtomgiaakhpemaaaPx1
import Derived.Test.YtomgiaakhpemaaaPx10
namespace Go.Proofs.Ytomgiaakhpemaaa.P
open Go.RowKit Go.Proofs.YtomgiaakhpemaaaW.PrintWords Go.Proofs.YtomgiaakhpemaaaW.PrintLast Go.Proofs.YtomgiaakhpemaaaW.PrintMore
attribute [local go_sem] max2_int min2_int max_two min_two max_three min_three max_four min_four   -- for this text's walks alone
set_option linter.unusedVariables false
set_option linter.unusedSimpArgs false

attribute [local go_sem high] eqA26
mutual
def colloquyref10_Count.l0 : Nat → Int → List (S35) → List (S35) → Int → Option ((List (S35)))
 | 0, _, _, _, _ => none
 | k + 1, x0, x1, x5, x6 => (colloquyref10_bound.f x0).bind fun t270 => (if x6 ≤ t270 then (colloquyref10_Count.l1 k x0 x1 x5 x6 0) else (some x5))
def colloquyref10_Count.l1 : Nat → Int → List (S35) → List (S35) → Int → Int → Option ((List (S35)))
 | 0, _, _, _, _, _ => none
 | k + 1, x0, x1, x5, x6, x7 => if x7 < (x1.length : Int) then (if 0 ≤ x7 then (if ((rd_T35 x1 x7).f0) = x6 then (if x5.length < 1034834473200 then (colloquyref10_Count.l0 k x0 x1 (x5 ++ [(⟨(rd_T35 x1 x7).f0, (⟨(rd_T35 x1 x7).f1.f0, (⟨(rd_T35 x1 x7).f1.f1.f0, (rd_T35 x1 x7).f1.f1.f1⟩ : S26), (⟨(rd_T35 x1 x7).f1.f2.f0, (rd_T35 x1 x7).f1.f2.f1⟩ : S26), (⟨(rd_T35 x1 x7).f1.f3.f0, (rd_T35 x1 x7).f1.f3.f1, (rd_T35 x1 x7).f1.f3.f2, (rd_T35 x1 x7).f1.f3.f3, (rd_T35 x1 x7).f1.f3.f4, (rd_T35 x1 x7).f1.f3.f5⟩ : S28), (⟨(rd_T35 x1 x7).f1.f4.f0, (rd_T35 x1 x7).f1.f4.f1⟩ : S31)⟩ : S33)⟩ : S35)]) (wrap64 (x6 + 1))) else (none)) else (colloquyref10_Count.l1 k x0 x1 x5 x6 (wrap64 (x7 + 1)))) else (none)) else (colloquyref10_Count.l0 k x0 x1 x5 (wrap64 (x6 + 1)))
end
def colloquyref10_Count.f (k : Nat) (a0 : Int) (l1 : List (S35)) : Option ((List (S35))) := colloquyref10_Count.l0 k a0 l1 ([] : List (S35)) 1
set_option maxHeartbeats 8000000 in
set_option maxRecDepth 100000 in
theorem colloquyref10_Count.calls (k : Nat) (a0 : Int) (P1_ : Nat → Prop) (A1 : Option Addr) (c1 : Nat) (l1 : List (S35)) (r : List (S35)) (w : World) (hs1 : Kd.V k35 35 w w.heap.size (fun k_ => P1_ k_) (.slice A1 l1.length c1) l1) (h : colloquyref10_Count.f k a0 l1 = some r) :
  Calls Try.prog 27 #[.int .i64 a0, .slice A1 l1.length c1] w fun e w' => ∃ v0_ : Value, e = .returned (v0_) ∧ Kd.N k35 35 w' w.heap.size (fun k_ => (P1_ k_ ∨ w.heap.size ≤ k_)) v0_ r ∧ Below w.heap.size w w' := by
 have hu35 := Try.underlying35
 have HO1 := Aside0.mk (show Kd.V k35 35 w w.heap.size (fun k_ => (P1_ k_ ∨ w.heap.size ≤ k_)) (.slice A1 l1.length c1) l1 from Kd.V_mono hs1 (fun k_ hk => .inl hk))
 have HB := Aside0.mk (Below.refl w.heap.size w)
 have H : (colloquyref10_Count.l0 k a0 l1 ([] : List (S35)) 1) = some r := h
 clear h
 have H' := Aside0.mk H
 clear H
 go_enter Try.func27, Try.ntmps27
 go_wp2
 go_loopg [5, 6] k (fun kq v5 v6 w' => ∃ (x5_1 : List (S35)) (x6_1 : Int), v6 = .int .i64 x6_1 ∧ Aside0 (colloquyref10_Count.l0 kq a0 l1 x5_1 x6_1 = some r) ∧ Aside0 (kq ≤ k) ∧ Aside0 (Kd.V k35 35 w' w.heap.size (fun k_ => (P1_ k_ ∨ w.heap.size ≤ k_) ∧ some k_ ≠ (v5 : Value).ownBlock) (.slice A1 l1.length c1) l1) ∧ Aside0 (Kd.N k35 35 w' w.heap.size (fun k_ => (P1_ k_ ∨ w.heap.size ≤ k_)) v5 x5_1) ∧ Aside0 (Below w.heap.size w w'))
 case atStart => exact ⟨(([] : List (S35))), (1), (by first | rfl | (simp; done) | (simp [*]; done)), H', ⟨Nat.le_refl _⟩, ⟨by (with_reducible repeat (first | apply Kd.V_alloc | apply Kd.V_drewN | apply Kd.V_drew)); exact Kd.V_mono HO1.out (fun _ hk => ⟨hk, (by simp [Value.ownBlock])⟩)⟩, ⟨by first | exact Kd.S_nil _ _ _ _ _ | exact Kd.N_nil _ _ _ _ _ | exact Kd.V_nil _ _ _ _ _ | exact Kd.Q_nil _ _ _ _ _ | exact Kd.R_nil _ _ _ _ _⟩, ⟨gw_ HB⟩⟩
 case round =>
  clear H'
  try clear c1
  try clear c2
  try clear p2
  obtain ⟨x5_1, x6_1, rfl, HA, HK1, HO_1, HO_5, HB⟩ := hrel
  cases gk with
  | zero => exact absurd HA.out (by simp [colloquyref10_Count.l0])
  | succ k1 =>
   have H := HA.out
   clear HA
   simp only [colloquyref10_Count.l0] at H
   replace H := Option.bind_eq_some_iff.mp H
   obtain ⟨t270, A30, H⟩ := H
   replace H : (if x6_1 ≤ t270 then (colloquyref10_Count.l1 k1 a0 l1 x5_1 x6_1 0) else (some x5_1)) = some r := H
   have A3 := Aside0.mk A30
   clear A30
   by_cases c4 : x6_1 ≤ t270
   ·
    rw [if_pos c4] at H
    have c4b0 : decide (x6_1 ≤ t270) = true := decide_eq_true c4
    clear c4
    have H' := Aside0.mk H
    clear H
    go_wp2_with (first | ((with_reducible refine gate_callee (f := 31) rfl ?_); refine goesL_ (some 10) rfl rfl Try.func31 (by kernel_rfl) rfl #[.int .i64 a0] rfl (by (try simp only [List.map_toArray, List.map_cons, List.map_nil]); first | done | rfl | (simp only [List.length_drop, List.length_take]; rfl)) ?_; (with_reducible refine (colloquyref10_bound.calls a0 t270 _ A3.out).mono ?_); rintro e w' ⟨rfl, ⟨nd, rfl⟩⟩; refine ⟨_, rfl, ?_⟩))
    go_loopg [5, 7] k1 (fun kq v5 v7 w' => ∃ (x5_2 : List (S35)) (x7_2 : Int), v7 = .int .i64 x7_2 ∧ Aside0 (colloquyref10_Count.l1 kq a0 l1 x5_2 x6_1 x7_2 = some r) ∧ Aside0 (kq ≤ k1) ∧ Aside0 (Kd.V k35 35 w' w.heap.size (fun k_ => (P1_ k_ ∨ w.heap.size ≤ k_) ∧ some k_ ≠ (v5 : Value).ownBlock) (.slice A1 l1.length c1) l1) ∧ Aside0 (Kd.N k35 35 w' w.heap.size (fun k_ => (P1_ k_ ∨ w.heap.size ≤ k_)) v5 x5_2) ∧ Aside0 (Below w.heap.size w w'))
    case atStart => exact ⟨(x5_1), (0), (by first | rfl | (simp; done) | (simp [*]; done)), H', ⟨Nat.le_refl _⟩, ⟨by (with_reducible repeat (first | apply Kd.V_alloc | apply Kd.V_drewN | apply Kd.V_drew)); exact HO_1.out⟩, ⟨by (with_reducible repeat (first | apply Kd.N_alloc | apply Kd.N_drewN | apply Kd.N_drew)); exact HO_5.out⟩, ⟨gw_ HB⟩⟩
    case round =>
     clear H'
     try clear c1
     try clear c2
     try clear p2
     try clear c3
     try clear c4
     try clear c4b0
     try clear p2
     obtain ⟨x5_2, x7_2, rfl, HA, HK2, HO_1, HO_5, HB⟩ := hrel
     cases gk with
     | zero => exact absurd HA.out (by simp [colloquyref10_Count.l1])
     | succ k2 =>
      have H := HA.out
      clear HA
      simp only [colloquyref10_Count.l1] at H
      by_cases c5 : x7_2 < (l1.length : Int)
      ·
       rw [if_pos c5] at H
       have c5b0 : decide (x7_2 < (l1.length : Int)) = true := decide_eq_true c5
       clear c5
       by_cases c6 : 0 ≤ x7_2
       ·
        rw [if_pos c6] at H
        have c6b0 : decide (0 ≤ x7_2) = true := decide_eq_true c6
        clear c6
        by_cases c7 : ((rd_T35 l1 x7_2).f0) = x6_1
        ·
         rw [if_pos c7] at H
         have c7b0 : (((rd_T35 l1 x7_2).f0) == x6_1) = true := beq_iff_eq.mpr c7
         have c7b1 : (((rd_T35 l1 x7_2).f0) != x6_1) = false := bne_eq_false_iff_eq.mpr c7
         clear c7
         by_cases c8 : x5_2.length < 1034834473200
         ·
          rw [if_pos c8] at H
          have LMc8 := Aside0.mk c8
          clear c8
          obtain ⟨y273, hy273⟩ : ∃ y_ : List (S35), y_ = (x5_2 ++ [(⟨(rd_T35 l1 x7_2).f0, (⟨(rd_T35 l1 x7_2).f1.f0, (⟨(rd_T35 l1 x7_2).f1.f1.f0, (rd_T35 l1 x7_2).f1.f1.f1⟩ : S26), (⟨(rd_T35 l1 x7_2).f1.f2.f0, (rd_T35 l1 x7_2).f1.f2.f1⟩ : S26), (⟨(rd_T35 l1 x7_2).f1.f3.f0, (rd_T35 l1 x7_2).f1.f3.f1, (rd_T35 l1 x7_2).f1.f3.f2, (rd_T35 l1 x7_2).f1.f3.f3, (rd_T35 l1 x7_2).f1.f3.f4, (rd_T35 l1 x7_2).f1.f3.f5⟩ : S28), (⟨(rd_T35 l1 x7_2).f1.f4.f0, (rd_T35 l1 x7_2).f1.f4.f1⟩ : S31)⟩ : S33)⟩ : S35)]) := ⟨_, rfl⟩
          replace H : (colloquyref10_Count.l0 k2 a0 l1 y273 (wrap64 (x6_1 + 1))) = some r := by first | (rw [hy273]; with_reducible exact H) | (have H2_ := (Option.bind_some _ _).symm.trans H; rw [hy273]; with_reducible exact H2_) | (have H2_ := (Option.bind_some _ _).symm.trans H; with_reducible exact H2_) | with_reducible exact H | (rw [hy273]; exact H) | exact H
          have Ny273 := Aside0.mk hy273
          clear hy273
          have H' := Aside0.mk H
          clear H
          have p271 : 0 ≤ (x7_2 : Int) := of_decide_eq_true (by first | (with_reducible assumption) | assumption)
          have q271 : x7_2 < (l1.length : Int) := of_decide_eq_true (by first | (with_reducible assumption) | assumption)
          obtain ⟨ad271, A271_13, c271_13, e271, hx271_0, hx271_1, hx271_2, hx271_3, hx271_4, hx271_5, hx271_6, hx271_7, hx271_8, hx271_9, hx271_10, hx271_11, hx271_12, hx271_13, hl271_13, hi271_13⟩ := at_T35 (Kd.V_reads' HO_1.out).2.2 x7_2 p271 q271
          cases e271
          obtain ⟨ce271, hce271, hMe271, hcc271⟩ := Kd.V_get HO_1.out z35 x7_2 p271 (by first | exact q271 | exact of_decide_eq_true (by first | (with_reducible assumption) | assumption) | (have e_ := (Kd.V_reads' HO_1.out).1; omega))
          obtain ⟨ua271_13, uc271_13, rfl, ul271_13, ge271_13⟩ := k35_openF hMe271
          have hv271_13 := hcc271 13 _ rfl
          rw [add_field _ _ 13 (by omega)] at hv271_13
          replace hv271_13 := Option.some.inj (hv271_13.symm.trans hx271_13)
          injection hv271_13 with hva_ hvn_ hvc_
          rw [hva_] at ge271_13
          rw [hvc_] at ul271_13
          have HL271_13 := Aside0.mk (show Kd.V (Kd.int .i64) 3 _ w.heap.size _ _ ((rd_T35 l1 x7_2).f1.f4.f1) from Kd.V_mk ul271_13 ge271_13)
          clear hva_ hvn_ hvc_ ge271_13 ul271_13
          clear hcc271 hce271
          have HR271_13 := Aside0.mk hi271_13
          have HC271_13 := Aside0.mk hl271_13
          clear hi271_13 hl271_13
          replace p271 := eq_true p271
          replace q271 := eq_true q271
          have p272 : 0 ≤ (x7_2 : Int) := of_decide_eq_true (by first | (with_reducible assumption) | assumption)
          have q272 : x7_2 < (l1.length : Int) := of_decide_eq_true (by first | (with_reducible assumption) | assumption)
          obtain ⟨ad272, A272_13, c272_13, e272, hx272_0, hx272_1, hx272_2, hx272_3, hx272_4, hx272_5, hx272_6, hx272_7, hx272_8, hx272_9, hx272_10, hx272_11, hx272_12, hx272_13, hl272_13, hi272_13⟩ := at_T35 (Kd.V_reads' HO_1.out).2.2 x7_2 p272 q272
          obtain rfl : ad271 = ad272 := (by injection e272)
          obtain ⟨ce272, hce272, hMe272, hcc272⟩ := Kd.V_get HO_1.out z35 x7_2 p272 (by first | exact q272 | exact of_decide_eq_true (by first | (with_reducible assumption) | assumption) | (have e_ := (Kd.V_reads' HO_1.out).1; omega))
          obtain ⟨ua272_13, uc272_13, rfl, ul272_13, ge272_13⟩ := k35_openF hMe272
          have hv272_13 := hcc272 13 _ rfl
          rw [add_field _ _ 13 (by omega)] at hv272_13
          replace hv272_13 := Option.some.inj (hv272_13.symm.trans hx272_13)
          injection hv272_13 with hva_ hvn_ hvc_
          rw [hva_] at ge272_13
          rw [hvc_] at ul272_13
          have HL272_13 := Aside0.mk (show Kd.V (Kd.int .i64) 3 _ w.heap.size _ _ ((rd_T35 l1 x7_2).f1.f4.f1) from Kd.V_mk ul272_13 ge272_13)
          clear hva_ hvn_ hvc_ ge272_13 ul272_13
          clear hcc272 hce272
          have HR272_13 := Aside0.mk hi272_13
          have HC272_13 := Aside0.mk hl272_13
          clear hi272_13 hl272_13
          replace p272 := eq_true p272
          replace q272 := eq_true q272
          have ea_ := Option.some.inj (hx271_13.symm.trans hx272_13)
          injection ea_ with ea_ en_ ec_
          subst ea_
          subst ec_
          clear en_
          go_wp2_with (first | ((with_reducible refine gate_builtin (b := .append) (xs := #[.tmp 27, .tmp 32]) rfl ?_); at_builtin; refine Kd.N_append k35 (w0 := w) w.heap.size rfl (.tmp 27) (.tmp 32) 22 35 (.agg #[(.int .i64 0), (.int .i64 0), (.int .i64 0), (.int .i64 0), (.int .i64 0), (.int .i64 0), (.int .i64 0), (.int .i64 0), (.int .i64 0), (.int .i64 0), (.int .i64 0), (.string ⟨#[]⟩), (.int .i64 0), (.slice none 0 0)]) 136 rfl Try.underlying22 info35 rfl (by decide) (by omega) u5 x5_2 (⟨(rd_T35 l1 x7_2).f0, (⟨(rd_T35 l1 x7_2).f1.f0, (⟨(rd_T35 l1 x7_2).f1.f1.f0, (rd_T35 l1 x7_2).f1.f1.f1⟩ : S26), (⟨(rd_T35 l1 x7_2).f1.f2.f0, (rd_T35 l1 x7_2).f1.f2.f1⟩ : S26), (⟨(rd_T35 l1 x7_2).f1.f3.f0, (rd_T35 l1 x7_2).f1.f3.f1, (rd_T35 l1 x7_2).f1.f3.f2, (rd_T35 l1 x7_2).f1.f3.f3, (rd_T35 l1 x7_2).f1.f3.f4, (rd_T35 l1 x7_2).f1.f3.f5⟩ : S28), (⟨(rd_T35 l1 x7_2).f1.f4.f0, (rd_T35 l1 x7_2).f1.f4.f1⟩ : S31)⟩ : S33)⟩ : S35) [.int .i64 ((rd_T35 l1 x7_2).f0), .int .i64 ((rd_T35 l1 x7_2).f1.f0), .int .i64 ((rd_T35 l1 x7_2).f1.f1.f0), .int .i64 ((rd_T35 l1 x7_2).f1.f1.f1), .int .i64 ((rd_T35 l1 x7_2).f1.f2.f0), .int .i64 ((rd_T35 l1 x7_2).f1.f2.f1), .int .i64 ((rd_T35 l1 x7_2).f1.f3.f0), .int .i64 ((rd_T35 l1 x7_2).f1.f3.f1), .int .i64 ((rd_T35 l1 x7_2).f1.f3.f2), .int .i64 ((rd_T35 l1 x7_2).f1.f3.f3), .int .i64 ((rd_T35 l1 x7_2).f1.f3.f4), .string ((rd_T35 l1 x7_2).f1.f3.f5), .int .i64 ((rd_T35 l1 x7_2).f1.f4.f0), .slice A271_13 ((rd_T35 l1 x7_2).f1.f4.f1).length c271_13] (fun k_ => (P1_ k_ ∨ w.heap.size ≤ k_)) (fun k_ => ((fun k_ => (P1_ k_ ∨ w.heap.size ≤ k_))) k_ ∧ some k_ ≠ (u5 : Value).ownBlock) rfl rfl ?aP (fun _ hk => hk) ?aF ?aO ?aB ?aS ?aL ?_; (case aP => exact (k35_mkF _ _ (⟨(rd_T35 l1 x7_2).f0, (⟨(rd_T35 l1 x7_2).f1.f0, (⟨(rd_T35 l1 x7_2).f1.f1.f0, (rd_T35 l1 x7_2).f1.f1.f1⟩ : S26), (⟨(rd_T35 l1 x7_2).f1.f2.f0, (rd_T35 l1 x7_2).f1.f2.f1⟩ : S26), (⟨(rd_T35 l1 x7_2).f1.f3.f0, (rd_T35 l1 x7_2).f1.f3.f1, (rd_T35 l1 x7_2).f1.f3.f2, (rd_T35 l1 x7_2).f1.f3.f3, (rd_T35 l1 x7_2).f1.f3.f4, (rd_T35 l1 x7_2).f1.f3.f5⟩ : S28), (⟨(rd_T35 l1 x7_2).f1.f4.f0, (rd_T35 l1 x7_2).f1.f4.f1⟩ : S31)⟩ : S33)⟩ : S35) (Kd.V_reads' (Kd.V_mono (ok' := (fun k_ => ((fun k_ => (P1_ k_ ∨ w.heap.size ≤ k_))) k_ ∧ some k_ ≠ (u5 : Value).ownBlock)) (HL272_13.out) (fun k_ hk => ⟨hk.1, hk.2⟩))).2.1 (Kd.V_F (Kd.V_mono (ok' := (fun k_ => ((fun k_ => (P1_ k_ ∨ w.heap.size ≤ k_))) k_ ∧ some k_ ≠ (u5 : Value).ownBlock)) (HL272_13.out) (fun k_ hk => ⟨hk.1, hk.2⟩))))); (case aB => exact (gw_ HB)); (case aF => exact (fun k_ hk => (.inr (Nat.le_trans (below_size (gw_ HB)) hk)))); (case aO => exact (Kd.nk HO_5)); (case aS => exact (below_size (gw_ HB))); (case aL => have := LMc8.out; omega); intro v274 w9 ho hb hg hat; rw [← Ny273.out] at ho; have n0_ := Aside0.mk (Kd.V_afterv (ok := (fun k_ => (P1_ k_ ∨ w.heap.size ≤ k_))) (Kd.vk HO_1) hg hat); have n1_ := Aside0.mk (Kd.V_afterv (ok := (fun k_ => (P1_ k_ ∨ w.heap.size ≤ k_))) (Kd.vk HL271_13) hg hat); have n2_ := Aside0.mk (Kd.V_afterv (ok := (fun k_ => (P1_ k_ ∨ w.heap.size ≤ k_))) (Kd.vk HL272_13) hg hat); have n3_ := Aside0.mk (hb); have n4_ := Aside0.mk (ho); clear HO_1; clear HL271_13; clear HL272_13; clear HB; clear HO_5; have HO_1 := n0_; have HL271_13 := n1_; have HL272_13 := n2_; have HB := n3_; have HO275 := n4_; clear n0_ n1_ n2_ n3_ n4_; clear ho hb hg hat))
          go_roundg k2
          case measure => have := HK1.out; have := HK2.out; omega
          case rel => exact ⟨(y273), (wrap64 (x6_1 + 1)), (by first | rfl | (simp; done) | (simp [*]; done)), H', ⟨by have := HK1.out; have := HK2.out; omega⟩, ⟨by (with_reducible repeat (first | apply Kd.V_alloc | apply Kd.V_drewN | apply Kd.V_drew)); exact HO_1.out⟩, ⟨by (with_reducible repeat (first | apply Kd.N_alloc | apply Kd.N_drewN | apply Kd.N_drew)); exact HO275.out⟩, ⟨gw_ HB⟩⟩
         ·
          rw [if_neg c8] at H
          exact absurd H (by simp)
        ·
         rw [if_neg c7] at H
         have c7b0 : (((rd_T35 l1 x7_2).f0) == x6_1) = false := beq_eq_false_iff_ne.mpr c7
         have c7b1 : (((rd_T35 l1 x7_2).f0) != x6_1) = true := bne_iff_ne.mpr c7
         have H' := Aside0.mk H
         clear H
         have p271 : 0 ≤ (x7_2 : Int) := of_decide_eq_true (by first | (with_reducible assumption) | assumption)
         have q271 : x7_2 < (l1.length : Int) := of_decide_eq_true (by first | (with_reducible assumption) | assumption)
         obtain ⟨ad271, A271_13, c271_13, e271, hx271_0, hx271_1, hx271_2, hx271_3, hx271_4, hx271_5, hx271_6, hx271_7, hx271_8, hx271_9, hx271_10, hx271_11, hx271_12, hx271_13, hl271_13, hi271_13⟩ := at_T35 (Kd.V_reads' HO_1.out).2.2 x7_2 p271 q271
         cases e271
         obtain ⟨ce271, hce271, hMe271, hcc271⟩ := Kd.V_get HO_1.out z35 x7_2 p271 (by first | exact q271 | exact of_decide_eq_true (by first | (with_reducible assumption) | assumption) | (have e_ := (Kd.V_reads' HO_1.out).1; omega))
         obtain ⟨ua271_13, uc271_13, rfl, ul271_13, ge271_13⟩ := k35_openF hMe271
         have hv271_13 := hcc271 13 _ rfl
         rw [add_field _ _ 13 (by omega)] at hv271_13
         replace hv271_13 := Option.some.inj (hv271_13.symm.trans hx271_13)
         injection hv271_13 with hva_ hvn_ hvc_
         rw [hva_] at ge271_13
         rw [hvc_] at ul271_13
         have HL271_13 := Aside0.mk (show Kd.V (Kd.int .i64) 3 _ w.heap.size _ _ ((rd_T35 l1 x7_2).f1.f4.f1) from Kd.V_mk ul271_13 ge271_13)
         clear hva_ hvn_ hvc_ ge271_13 ul271_13
         clear hcc271 hce271
         have HR271_13 := Aside0.mk hi271_13
         have HC271_13 := Aside0.mk hl271_13
         clear hi271_13 hl271_13
         replace p271 := eq_true p271
         replace q271 := eq_true q271
         go_wp2
         go_roundg k2
         case measure => have := HK1.out; have := HK2.out; omega
         case rel => exact ⟨(x5_2), (wrap64 (x7_2 + 1)), (by first | rfl | (simp; done) | (simp [*]; done)), H', ⟨by have := HK1.out; have := HK2.out; omega⟩, ⟨by (with_reducible repeat (first | apply Kd.V_alloc | apply Kd.V_drewN | apply Kd.V_drew)); exact HO_1.out⟩, ⟨by (with_reducible repeat (first | apply Kd.N_alloc | apply Kd.N_drewN | apply Kd.N_drew)); exact HO_5.out⟩, ⟨gw_ HB⟩⟩
       ·
        rw [if_neg c6] at H
        exact absurd H (by simp)
      ·
       rw [if_neg c5] at H
       have c5b0 : decide (x7_2 < (l1.length : Int)) = false := decide_eq_false c5
       clear c5
       have H' := Aside0.mk H
       clear H
       go_wp2
       go_roundg k2
       case measure => have := HK1.out; have := HK2.out; omega
       case rel => exact ⟨(x5_2), (wrap64 (x6_1 + 1)), (by first | rfl | (simp; done) | (simp [*]; done)), H', ⟨by have := HK1.out; have := HK2.out; omega⟩, ⟨by (with_reducible repeat (first | apply Kd.V_alloc | apply Kd.V_drewN | apply Kd.V_drew)); exact HO_1.out⟩, ⟨by (with_reducible repeat (first | apply Kd.N_alloc | apply Kd.N_drewN | apply Kd.N_drew)); exact HO_5.out⟩, ⟨gw_ HB⟩⟩
   ·
    rw [if_neg c4] at H
    have c4b0 : decide (x6_1 ≤ t270) = false := decide_eq_false c4
    clear c4
    obtain rfl := Option.some.inj H
    go_wp2_with (first | ((with_reducible refine gate_callee (f := 31) rfl ?_); refine goesL_ (some 10) rfl rfl Try.func31 (by kernel_rfl) rfl #[.int .i64 a0] rfl (by (try simp only [List.map_toArray, List.map_cons, List.map_nil]); first | done | rfl | (simp only [List.length_drop, List.length_take]; rfl)) ?_; (with_reducible refine (colloquyref10_bound.calls a0 t270 _ A3.out).mono ?_); rintro e w' ⟨rfl, ⟨nd, rfl⟩⟩; refine ⟨_, rfl, ?_⟩))
    go_ret
    exact ⟨_, by first | rfl | (simp [errW_none, errW_some] <;> rfl) | (simp [*, errW_none, errW_some] <;> rfl), by (with_reducible repeat (first | apply Kd.N_alloc | apply Kd.N_drewN | apply Kd.N_drew)); exact HO_5.out, gw_ HB⟩

def colloquyref07_Cmp.j0 : Nat → Bool → Int → Int → Int → Int → Option (Int)
 | 0, _, _, _, _, _ => none
 | k + 1, x23, x277000, x277001, x278000, x278001 => if x23 = true then (some (-1)) else (if (x277000 == x278000 && (x277001 == x278001)) = true then (some 0) else (some 1))
def colloquyref07_Cmp.f (k : Nat) (a0_0 : Int) (a0_1 : Int) (a1_0 : Int) (a1_1 : Int) : Option (Int) := if a0_0 < a1_0 then (colloquyref07_Cmp.j0 k true a0_0 a0_1 a1_0 a1_1) else (if a0_0 = a1_0 then (colloquyref07_Cmp.j0 k (decide (a0_1 < a1_1)) a0_0 a0_1 a1_0 a1_1) else (colloquyref07_Cmp.j0 k false a0_0 a0_1 a1_0 a1_1))
set_option maxHeartbeats 8000000 in
set_option maxRecDepth 100000 in
theorem colloquyref07_Cmp.calls (k : Nat) (a0_0 : Int) (a0_1 : Int) (a1_0 : Int) (a1_1 : Int) (r : Int) (w : World) (h : colloquyref07_Cmp.f k a0_0 a0_1 a1_0 a1_1 = some r) :
  Calls Try.prog 29 #[.agg #[.int .i64 a0_0, .int .i64 a0_1], .agg #[.int .i64 a1_0, .int .i64 a1_1]] w fun e w' => e = .returned (.int .i64 r) ∧ Below w.heap.size w w' := by
 have hu26 := Try.underlying26
 have HB := Aside0.mk (Below.refl w.heap.size w)
 have H : (if a0_0 < a1_0 then (colloquyref07_Cmp.j0 k true a0_0 a0_1 a1_0 a1_1) else (if a0_0 = a1_0 then (colloquyref07_Cmp.j0 k (decide (a0_1 < a1_1)) a0_0 a0_1 a1_0 a1_1) else (colloquyref07_Cmp.j0 k false a0_0 a0_1 a1_0 a1_1))) = some r := h
 clear h
 have HC3 := Aside0.mk H
 clear H
 go_enter Try.func29, Try.ntmps29
 go_upto_region 1 with (first | ((with_reducible refine gate_dst (N := 2) rfl ?_); refine box_event ?hg (N := 2) ?hd (cs := #[.int .i64 a0_0, .int .i64 a0_1]) (t := 26) ?hr ?_; (case hd => rfl); (case hg => rfl); (case hr => first | (go_simp; done) | (go_simp; rfl)); intro gb276 hg w4 hbox hb; have s_ := step_size_ (gw_ HB) hb hg; have n0_ := Aside0.mk s_.1; have n1_ := Aside0.mk (hbox); have n2_ := Aside0.mk s_.2; clear s_; have n3_ := n2_; clear HB; have HB := n0_; have BK276 := n1_; have GW276 := n2_; have GE276 := n3_; clear n0_ n1_ n2_ n3_; clear hb hbox hg) | ((with_reducible refine gate_dst (N := 3) rfl ?_); refine box_event ?hg (N := 3) ?hd (cs := #[.int .i64 a1_0, .int .i64 a1_1]) (t := 26) ?hr ?_; (case hd => rfl); (case hg => rfl); (case hr => first | (go_simp; done) | (go_simp; rfl)); intro gb277 hg w5 hbox hb; have n0_ := Aside0.mk (blk_below (g := gb276) (bk BK276) hb); have s_ := step_size_ (gw_ HB) hb hg; have n1_ := Aside0.mk s_.1; have n2_ := Aside0.mk (hbox); have n3_ := Aside0.mk s_.2; clear s_; have n4_ := n3_; have l_ := blk_lt_ (g := gb276) hg (bk BK276); have n5_ := Aside0.mk (Nat.ne_of_lt l_); have n6_ := Aside0.mk (Nat.ne_of_gt l_); clear l_; clear BK276; clear HB; have BK276 := n0_; have HB := n1_; have BK277 := n2_; have GW277 := n3_; have GE277 := n4_; have NB276_277 := n5_; have NB277_276 := n6_; clear n0_ n1_ n2_ n3_ n4_ n5_ n6_; clear hb hbox hg))
 (try simp only [Act.put, List.setIfInBounds_toArray, List.set_cons_zero, List.set_cons_succ])
 go_cut [23] (fun v23 wc => ∃ (kq : Nat) (x23_2 : Bool), v23 = .bool x23_2 ∧ Aside0 (colloquyref07_Cmp.j0 kq x23_2 a0_0 a0_1 a1_0 a1_1 = some r) ∧ Aside0 (kq ≤ k) ∧ Aside0 (wc.heap[gb276]? = some (.cells #[.int .i64 a0_0, .int .i64 a0_1] 26 (0, 0))) ∧ Aside0 (wc.heap[gb277]? = some (.cells #[.int .i64 a1_0, .int .i64 a1_1] 26 (0, 0))) ∧ Aside0 (Below w.heap.size w wc))
 case first =>
  have H := HC3.out
  clear HC3
  by_cases c6 : a0_0 < a1_0
  ·
   rw [if_pos c6] at H
   have c6b0 : decide (a0_0 < a1_0) = true := decide_eq_true c6
   clear c6
   (first | rw [c6b0] | (simp only [i64_w, i32_w]; rw [c6b0]) | skip)
   have H' := Aside0.mk H
   clear H
   have hnb7 := NB276_277.out
   have hnc7 := NB277_276.out
   obtain ⟨hcz8_0, hcz8_1⟩ := blk_cells2 BK276.out
   obtain ⟨hfz8_0, hfz8_1⟩ := blk_frozens2 BK276.out
   obtain ⟨hcz9_0, hcz9_1⟩ := blk_cells2 BK277.out
   obtain ⟨hfz9_0, hfz9_1⟩ := blk_frozens2 BK277.out
   go_wp2
   go_meet
   case rel => exact ⟨_, (true), (by first | rfl | (simp; done) | (simp [*]; done)), H', ⟨by first | omega | exact Nat.le_refl _⟩, ⟨by (with_reducible repeat (first | refine blk_drewN ?_ _ | refine blk_drew ?_ | refine blk_alloc ?_ _)); exact BK276.out⟩, ⟨by (with_reducible repeat (first | refine blk_drewN ?_ _ | refine blk_drew ?_ | refine blk_alloc ?_ _)); exact BK277.out⟩, ⟨gw_ HB⟩⟩
  ·
   rw [if_neg c6] at H
   have c6b0 : decide (a0_0 < a1_0) = false := decide_eq_false c6
   clear c6
   (first | rw [c6b0] | (simp only [i64_w, i32_w]; rw [c6b0]) | skip)
   by_cases c10 : a0_0 = a1_0
   ·
    rw [if_pos c10] at H
    have c10b0 : (a0_0 == a1_0) = true := beq_iff_eq.mpr c10
    have c10b1 : (a0_0 != a1_0) = false := bne_eq_false_iff_eq.mpr c10
    clear c10
    have H' := Aside0.mk H
    clear H
    have hnb11 := NB276_277.out
    have hnc11 := NB277_276.out
    obtain ⟨hcz12_0, hcz12_1⟩ := blk_cells2 BK276.out
    obtain ⟨hfz12_0, hfz12_1⟩ := blk_frozens2 BK276.out
    obtain ⟨hcz13_0, hcz13_1⟩ := blk_cells2 BK277.out
    obtain ⟨hfz13_0, hfz13_1⟩ := blk_frozens2 BK277.out
    go_wp2
    go_meet
    case rel => exact ⟨_, (decide (a0_1 < a1_1)), (by first | rfl | (simp; done) | (simp [*]; done)), H', ⟨by first | omega | exact Nat.le_refl _⟩, ⟨by (with_reducible repeat (first | refine blk_drewN ?_ _ | refine blk_drew ?_ | refine blk_alloc ?_ _)); exact BK276.out⟩, ⟨by (with_reducible repeat (first | refine blk_drewN ?_ _ | refine blk_drew ?_ | refine blk_alloc ?_ _)); exact BK277.out⟩, ⟨gw_ HB⟩⟩
   ·
    rw [if_neg c10] at H
    have c10b0 : (a0_0 == a1_0) = false := beq_eq_false_iff_ne.mpr c10
    have c10b1 : (a0_0 != a1_0) = true := bne_iff_ne.mpr c10
    have H' := Aside0.mk H
    clear H
    have hnb14 := NB276_277.out
    have hnc14 := NB277_276.out
    obtain ⟨hcz15_0, hcz15_1⟩ := blk_cells2 BK276.out
    obtain ⟨hfz15_0, hfz15_1⟩ := blk_frozens2 BK276.out
    obtain ⟨hcz16_0, hcz16_1⟩ := blk_cells2 BK277.out
    obtain ⟨hfz16_0, hfz16_1⟩ := blk_frozens2 BK277.out
    go_wp2
    go_meet
    case rel => exact ⟨_, (false), (by first | rfl | (simp; done) | (simp [*]; done)), H', ⟨by first | omega | exact Nat.le_refl _⟩, ⟨by (with_reducible repeat (first | refine blk_drewN ?_ _ | refine blk_drew ?_ | refine blk_alloc ?_ _)); exact BK276.out⟩, ⟨by (with_reducible repeat (first | refine blk_drewN ?_ _ | refine blk_drew ?_ | refine blk_alloc ?_ _)); exact BK277.out⟩, ⟨gw_ HB⟩⟩
 case rest =>
  clear HC3
  try clear c1
  try clear c2
  try clear p2
  try clear c6
  try clear c6b0
  try clear c7
  try clear c10
  try clear c10b0
  try clear c10b1
  try clear c11
  try clear c14
  try clear hcz12_0
  try clear hcz12_1
  try clear hcz13_0
  try clear hcz13_1
  try clear hcz15_0
  try clear hcz15_1
  try clear hcz16_0
  try clear hcz16_1
  try clear hcz8_0
  try clear hcz8_1
  try clear hcz9_0
  try clear hcz9_1
  try clear hfz12_0
  try clear hfz12_1
  try clear hfz13_0
  try clear hfz13_1
  try clear hfz15_0
  try clear hfz15_1
  try clear hfz16_0
  try clear hfz16_1
  try clear hfz8_0
  try clear hfz8_1
  try clear hfz9_0
  try clear hfz9_1
  obtain ⟨kq, x23_2, rfl, HA, HJ2, BK276, BK277, HB⟩ := hcut
  cases kq with
  | zero => exact absurd HA.out (by simp [colloquyref07_Cmp.j0])
  | succ kj2 =>
   have H := HA.out
   clear HA
   simp only [colloquyref07_Cmp.j0] at H
   by_cases c17 : x23_2 = true
   ·
    subst c17
    have H1 : (some (-1)) = some r := by rw [if_pos rfl] at H; exact H
    clear H
    have H := H1
    clear H1
    obtain rfl := Option.some.inj H
    go_wp2
    go_ret
    exact ⟨by first | rfl | (simp [errW_none, errW_some] <;> rfl) | (simp [*, errW_none, errW_some] <;> rfl), gw_ HB⟩
   ·
    replace c17 := Bool.eq_false_iff.mpr c17
    subst c17
    have H1 : (if (a0_0 == a1_0 && (a0_1 == a1_1)) = true then (some 0) else (some 1)) = some r := by rw [if_neg (show ¬ (false = true) by decide)] at H; exact H
    clear H
    have H := H1
    clear H1
    by_cases c18 : (a0_0 == a1_0 && (a0_1 == a1_1)) = true
    ·
     rw [if_pos c18] at H
     have c18b0 : (a0_0 == a1_0 && (a0_1 == a1_1)) = true := c18
     (try (have c18b1 : decide (a0_0 = a1_0 && (a0_1 == a1_1)) = true := by simpa using c18))
     (try (have c18b2 : (a0_0 == a1_0 && (a0_1 == a1_1)) = true := by simpa using c18))
     clear c18
     obtain rfl := Option.some.inj H
     have hnb19 := NB276_277.out
     have hnc19 := NB277_276.out
     obtain ⟨hcz20_0, hcz20_1⟩ := blk_cells2 BK276.out
     obtain ⟨hfz20_0, hfz20_1⟩ := blk_frozens2 BK276.out
     obtain ⟨hcz21_0, hcz21_1⟩ := blk_cells2 BK277.out
     obtain ⟨hfz21_0, hfz21_1⟩ := blk_frozens2 BK277.out
     go_wp2
     go_ret
     exact ⟨by first | rfl | (simp [errW_none, errW_some] <;> rfl) | (simp [*, errW_none, errW_some] <;> rfl), gw_ HB⟩
    ·
     rw [if_neg c18] at H
     have c18b0 : (a0_0 == a1_0 && (a0_1 == a1_1)) = false := by simpa using c18
     (try (have c18b1 : decide (a0_0 = a1_0 && (a0_1 == a1_1)) = false := by simpa using c18))
     (try (have c18b2 : (a0_0 == a1_0 && (a0_1 == a1_1)) = false := by simpa using c18))
     (try (have c18b3 : ¬ (a0_0 = a1_0 && (a0_1 == a1_1)) := by simpa using c18))
     clear c18
     obtain rfl := Option.some.inj H
     have hnb22 := NB276_277.out
     have hnc22 := NB277_276.out
     obtain ⟨hcz23_0, hcz23_1⟩ := blk_cells2 BK276.out
     obtain ⟨hfz23_0, hfz23_1⟩ := blk_frozens2 BK276.out
     obtain ⟨hcz24_0, hcz24_1⟩ := blk_cells2 BK277.out
     obtain ⟨hfz24_0, hfz24_1⟩ := blk_frozens2 BK277.out
     go_wp2
     go_ret
     exact ⟨by first | rfl | (simp [errW_none, errW_some] <;> rfl) | (simp [*, errW_none, errW_some] <;> rfl), gw_ HB⟩

end Go.Proofs.Ytomgiaakhpemaaa.P
