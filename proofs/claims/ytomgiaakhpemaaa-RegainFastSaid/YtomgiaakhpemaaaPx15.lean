/- Plain Lean functions and their contracts over the translation, written by a program of this session (myprint.py, over the kit's print); no condition but each contract's own. -/
import Derived.Test.YtomgiaakhpemaaaPx0
import Derived.Test.YtomgiaakhpemaaaPx3
import Derived.Test.YtomgiaakhpemaaaPx4
import Derived.Test.YtomgiaakhpemaaaPx6
import Derived.Test.YtomgiaakhpemaaaPx7
import Derived.Test.YtomgiaakhpemaaaPx8
import Derived.Test.YtomgiaakhpemaaaPx10
import Derived.Test.YtomgiaakhpemaaaPx11
import Derived.Test.YtomgiaakhpemaaaPx13
import Derived.Test.YtomgiaakhpemaaaPx14
namespace Go.Proofs.Ytomgiaakhpemaaa.P
open Go.RowKit Go.Proofs.YtomgiaakhpemaaaW.PrintWords Go.Proofs.YtomgiaakhpemaaaW.PrintLast Go.Proofs.YtomgiaakhpemaaaW.PrintMore
attribute [local go_sem] max2_int min2_int max_two min_two max_three min_three max_four min_four   -- for this text's walks alone
set_option linter.unusedVariables false
set_option linter.unusedSimpArgs false

def regain_Fast.f (a0 : Int) (a1 : Int) (l2 : List (S35)) : Option (Bool) := (regain_collected.f a0 l2).bind fun t306 => ((regain_bound.f a0).bind fun t309 => (if (t306.length : Int) = t309 then ((regain_same.f a1 t306).bind fun t310 => (some t310)) else (some false)))
set_option maxHeartbeats 8000000 in
set_option maxRecDepth 100000 in
theorem regain_Fast.calls (a0 : Int) (a1 : Int) (A2 : Option Addr) (c2 : Nat) (l2 : List (S35)) (r : Bool) (w : World) (hr2 : Kd.C k35 w A2 l2.length l2) (hc2 : l2.length ≤ c2) (h : regain_Fast.f a0 a1 l2 = some r) :
  Calls Try.prog 15 #[.int .i64 a0, .int .i64 a1, .slice A2 l2.length c2] w fun e w' => e = .returned (.bool r) ∧ Below w.heap.size w w' := by
 have HR2 := Aside0.mk hr2
 have HC2 := Aside0.mk hc2
 clear hr2 hc2
 have HB := Aside0.mk (Below.refl w.heap.size w)
 have H : ((regain_collected.f a0 l2).bind fun t306 => ((regain_bound.f a0).bind fun t309 => (if (t306.length : Int) = t309 then ((regain_same.f a1 t306).bind fun t310 => (some t310)) else (some false)))) = some r := h
 clear h
 replace H := Option.bind_eq_some_iff.mp H
 obtain ⟨t306, A40, H⟩ := H
 replace H : ((regain_bound.f a0).bind fun t309 => (if (t306.length : Int) = t309 then ((regain_same.f a1 t306).bind fun t310 => (some t310)) else (some false))) = some r := H
 have A4 := Aside0.mk A40
 clear A40
 replace H := Option.bind_eq_some_iff.mp H
 obtain ⟨t309, A50, H⟩ := H
 replace H : (if (t306.length : Int) = t309 then ((regain_same.f a1 t306).bind fun t310 => (some t310)) else (some false)) = some r := H
 have A5 := Aside0.mk A50
 clear A50
 by_cases c6 : (t306.length : Int) = t309
 ·
  rw [if_pos c6] at H
  have c6b0 : ((t306.length : Int) == t309) = true := beq_iff_eq.mpr c6
  have c6b1 : ((t306.length : Int) != t309) = false := bne_eq_false_iff_eq.mpr c6
  clear c6
  replace H := Option.bind_eq_some_iff.mp H
  obtain ⟨t310, A70, H⟩ := H
  replace H : (some t310) = some r := H
  have A7 := Aside0.mk A70
  clear A70
  obtain rfl := Option.some.inj H
  go_enter Try.func15, Try.ntmps15
  go_wp2_with (first | ((with_reducible refine gate_callee (f := 19) rfl ?_); refine goesL_ (some 10) rfl rfl Try.func19 (by kernel_rfl) rfl #[.int .i64 a0, .slice A2 l2.length c2] rfl (by (try simp only [List.map_toArray, List.map_cons, List.map_nil]); first | done | rfl | (simp only [List.length_drop, List.length_take]; rfl)) ?_; (with_reducible refine (regain_collected.calls a0 (fun k_ => k_ < w.heap.size) _ _ l2 t306 _ ?side1 A4.out).mono ?_); (case side1 => exact Kd.V_mk HC2.out (Kd.F_below (Kd.C_F k35_heap HR2.out) (gw_ HB))); rintro e w8 ⟨v307, rfl, ho0, hb⟩; refine ⟨_, rfl, ?_⟩; have n0_ := Aside0.mk (Kd.N_lower (Kd.N_mono (ok' := fun k_ => True) ho0 (fun k_ hk_ => trivial)) (below_size (gw_ HB))); have n1_ := Aside0.mk (below_step (gw_ HB) hb); clear HB; have HO308 := n0_; have HB := n1_; clear n0_ n1_; (try clear hb); (try clear hb2); (try clear hk); (try clear hi); (try clear ho0); obtain ⟨Ao9, co9, eo9⟩ := Kd.N_slice HO308.out; subst eo9) | ((with_reducible refine gate_callee (f := 26) rfl ?_); refine goesL_ (some 14) rfl rfl Try.func26 (by kernel_rfl) rfl #[.int .i64 a0] rfl (by (try simp only [List.map_toArray, List.map_cons, List.map_nil]); first | done | rfl | (simp only [List.length_drop, List.length_take]; rfl)) ?_; (with_reducible refine (regain_bound.calls a0 t309 _ A5.out).mono ?_); rintro e w10 ⟨rfl, hb⟩; refine ⟨_, rfl, ?_⟩; have n0_ := Aside0.mk (Kd.N_below (Kd.nk HO308) hb); have n1_ := Aside0.mk (below_step (gw_ HB) hb); clear HO308; clear HB; have HO308 := n0_; have HB := n1_; clear n0_ n1_; (try clear hb); (try clear hb2); (try clear hk); (try clear hi)) | (go_at_call 32; (with_reducible refine (regain_same.calls a1 _ _ t306 t310 _ ?side1 ?side2 A7.out).mono ?_); (case side1 => repeat (first | exact (Kd.N_reads' HO308.out).2.2 | (with_reducible refine Kd.C_alloc ?_ _) | (with_reducible refine Kd.C_drewN ?_ _) | (with_reducible refine Kd.C_drew ?_))); (case side2 => exact (Kd.N_reads' HO308.out).2.1); rintro e w11 ⟨rfl, hb⟩; have n0_ := Aside0.mk (Kd.N_below (Kd.nk HO308) hb); have n1_ := Aside0.mk (below_step (gw_ HB) hb); clear HO308; clear HB; have HO308 := n0_; have HB := n1_; clear n0_ n1_; (try clear hb); (try clear hb2); (try clear hk); (try clear hi)))
  go_ret
  exact ⟨by first | rfl | (simp [errW_none, errW_some] <;> rfl) | (simp [*, errW_none, errW_some] <;> rfl), gw_ HB⟩
 ·
  rw [if_neg c6] at H
  have c6b0 : ((t306.length : Int) == t309) = false := beq_eq_false_iff_ne.mpr c6
  have c6b1 : ((t306.length : Int) != t309) = true := bne_iff_ne.mpr c6
  obtain rfl := Option.some.inj H
  go_enter Try.func15, Try.ntmps15
  go_wp2_with (first | ((with_reducible refine gate_callee (f := 19) rfl ?_); refine goesL_ (some 10) rfl rfl Try.func19 (by kernel_rfl) rfl #[.int .i64 a0, .slice A2 l2.length c2] rfl (by (try simp only [List.map_toArray, List.map_cons, List.map_nil]); first | done | rfl | (simp only [List.length_drop, List.length_take]; rfl)) ?_; (with_reducible refine (regain_collected.calls a0 (fun k_ => k_ < w.heap.size) _ _ l2 t306 _ ?side1 A4.out).mono ?_); (case side1 => exact Kd.V_mk HC2.out (Kd.F_below (Kd.C_F k35_heap HR2.out) (gw_ HB))); rintro e w12 ⟨v307, rfl, ho0, hb⟩; refine ⟨_, rfl, ?_⟩; have n0_ := Aside0.mk (Kd.N_lower (Kd.N_mono (ok' := fun k_ => True) ho0 (fun k_ hk_ => trivial)) (below_size (gw_ HB))); have n1_ := Aside0.mk (below_step (gw_ HB) hb); clear HB; have HO308 := n0_; have HB := n1_; clear n0_ n1_; (try clear hb); (try clear hb2); (try clear hk); (try clear hi); (try clear ho0); obtain ⟨Ao13, co13, eo13⟩ := Kd.N_slice HO308.out; subst eo13) | ((with_reducible refine gate_callee (f := 26) rfl ?_); refine goesL_ (some 14) rfl rfl Try.func26 (by kernel_rfl) rfl #[.int .i64 a0] rfl (by (try simp only [List.map_toArray, List.map_cons, List.map_nil]); first | done | rfl | (simp only [List.length_drop, List.length_take]; rfl)) ?_; (with_reducible refine (regain_bound.calls a0 t309 _ A5.out).mono ?_); rintro e w14 ⟨rfl, hb⟩; refine ⟨_, rfl, ?_⟩; have n0_ := Aside0.mk (Kd.N_below (Kd.nk HO308) hb); have n1_ := Aside0.mk (below_step (gw_ HB) hb); clear HO308; clear HB; have HO308 := n0_; have HB := n1_; clear n0_ n1_; (try clear hb); (try clear hb2); (try clear hk); (try clear hi)))
  go_ret
  exact ⟨by first | rfl | (simp [errW_none, errW_some] <;> rfl) | (simp [*, errW_none, errW_some] <;> rfl), gw_ HB⟩

mutual
def colloquylaw10_part.l0 : Nat → List (S35) → List Bool → List (S35) → Int → Option ((List (S35)))
 | 0, _, _, _, _ => none
 | k + 1, x0, x1, x5, x6 => if x6 < (x0.length : Int) then (colloquylaw10_part.j1 k x0 x1 x5 x6 (decide (x6 < (x1.length : Int)))) else (colloquylaw10_part.j1 k x0 x1 x5 x6 false)
def colloquylaw10_part.j1 : Nat → List (S35) → List Bool → List (S35) → Int → Bool → Option ((List (S35)))
 | 0, _, _, _, _, _ => none
 | k + 1, x0, x1, x5, x6, x16 => if x16 = true then (if 0 ≤ x6 then (if x6 < (x1.length : Int) then (if rdOf false x1 x6 = true then (if x6 < (x0.length : Int) then (if x5.length < 1034834473200 then (colloquylaw10_part.l0 k x0 x1 (x5 ++ [(⟨(rd_T35 x0 x6).f0, (⟨(rd_T35 x0 x6).f1.f0, (⟨(rd_T35 x0 x6).f1.f1.f0, (rd_T35 x0 x6).f1.f1.f1⟩ : S26), (⟨(rd_T35 x0 x6).f1.f2.f0, (rd_T35 x0 x6).f1.f2.f1⟩ : S26), (⟨(rd_T35 x0 x6).f1.f3.f0, (rd_T35 x0 x6).f1.f3.f1, (rd_T35 x0 x6).f1.f3.f2, (rd_T35 x0 x6).f1.f3.f3, (rd_T35 x0 x6).f1.f3.f4, (rd_T35 x0 x6).f1.f3.f5⟩ : S28), (⟨(rd_T35 x0 x6).f1.f4.f0, (rd_T35 x0 x6).f1.f4.f1⟩ : S31)⟩ : S33)⟩ : S35)]) (wrap64 (x6 + 1))) else (none)) else (none)) else (colloquylaw10_part.l0 k x0 x1 x5 (wrap64 (x6 + 1)))) else (none)) else (none)) else (some x5)
end
def colloquylaw10_part.f (k : Nat) (l0 : List (S35)) (l1 : List Bool) : Option ((List (S35))) := colloquylaw10_part.l0 k l0 l1 ([] : List (S35)) 0
set_option maxHeartbeats 8000000 in
set_option maxRecDepth 100000 in
theorem colloquylaw10_part.calls (k : Nat) (P0_ : Nat → Prop) (A0 : Option Addr) (c0 : Nat) (l0 : List (S35)) (A1 : Option Addr) (c1 : Nat) (l1 : List Bool) (r : List (S35)) (w : World) (hs0 : Kd.V k35 35 w w.heap.size (fun k_ => P0_ k_) (.slice A0 l0.length c0) l0) (hr1 : Kd.C Kd.bool w A1 l1.length l1) (hc1 : l1.length ≤ c1) (h : colloquylaw10_part.f k l0 l1 = some r) :
  Calls Try.prog 17 #[.slice A0 l0.length c0, .slice A1 l1.length c1] w fun e w' => ∃ v0_ : Value, e = .returned (v0_) ∧ Kd.N k35 35 w' w.heap.size (fun k_ => (P0_ k_ ∨ w.heap.size ≤ k_)) v0_ r ∧ Below w.heap.size w w' := by
 have hu35 := Try.underlying35
 have HO0 := Aside0.mk (show Kd.V k35 35 w w.heap.size (fun k_ => (P0_ k_ ∨ w.heap.size ≤ k_)) (.slice A0 l0.length c0) l0 from Kd.V_mono hs0 (fun k_ hk => .inl hk))
 have HR1 := Aside0.mk hr1
 have HC1 := Aside0.mk hc1
 clear hr1 hc1
 have HB := Aside0.mk (Below.refl w.heap.size w)
 have H : (colloquylaw10_part.l0 k l0 l1 ([] : List (S35)) 0) = some r := h
 clear h
 have H' := Aside0.mk H
 clear H
 go_enter Try.func17, Try.ntmps17
 go_wp2
 go_loopg [5, 6] k (fun kq v5 v6 w' => ∃ (x5_1 : List (S35)) (x6_1 : Int), v6 = .int .i64 x6_1 ∧ Aside0 (colloquylaw10_part.l0 kq l0 l1 x5_1 x6_1 = some r) ∧ Aside0 (kq ≤ k) ∧ Aside0 (Kd.V k35 35 w' w.heap.size (fun k_ => (P0_ k_ ∨ w.heap.size ≤ k_) ∧ some k_ ≠ (v5 : Value).ownBlock) (.slice A0 l0.length c0) l0) ∧ Aside0 (Kd.N k35 35 w' w.heap.size (fun k_ => (P0_ k_ ∨ w.heap.size ≤ k_)) v5 x5_1) ∧ Aside0 (Below w.heap.size w w'))
 case atStart => exact ⟨(([] : List (S35))), (0), (by first | rfl | (simp; done) | (simp [*]; done)), H', ⟨Nat.le_refl _⟩, ⟨by (with_reducible repeat (first | apply Kd.V_alloc | apply Kd.V_drewN | apply Kd.V_drew)); exact Kd.V_mono HO0.out (fun _ hk => ⟨hk, (by simp [Value.ownBlock])⟩)⟩, ⟨by first | exact Kd.S_nil _ _ _ _ _ | exact Kd.N_nil _ _ _ _ _ | exact Kd.V_nil _ _ _ _ _ | exact Kd.Q_nil _ _ _ _ _ | exact Kd.R_nil _ _ _ _ _⟩, ⟨gw_ HB⟩⟩
 case round =>
  clear H'
  try clear c1
  try clear p2
  obtain ⟨x5_1, x6_1, rfl, HA, HK1, HO_0, HO_5, HB⟩ := hrel
  cases gk with
  | zero => exact absurd HA.out (by simp [colloquylaw10_part.l0])
  | succ k1 =>
   have H := HA.out
   clear HA
   simp only [colloquylaw10_part.l0] at H
   have HC3 := Aside0.mk H
   clear H
   go_upto_region 3 with (fail)
   go_cut [16] (fun v16 wc => ∃ (kq : Nat) (x16_2 : Bool), v16 = .bool x16_2 ∧ Aside0 (colloquylaw10_part.j1 kq l0 l1 x5_1 x6_1 x16_2 = some r) ∧ Aside0 (kq ≤ k1) ∧ Aside0 (Kd.V k35 35 wc w.heap.size (fun k_ => (P0_ k_ ∨ w.heap.size ≤ k_) ∧ some k_ ≠ (u5 : Value).ownBlock) (.slice A0 l0.length c0) l0) ∧ Aside0 (Kd.N k35 35 wc w.heap.size (fun k_ => (P0_ k_ ∨ w.heap.size ≤ k_)) u5 x5_1) ∧ Aside0 (Below w.heap.size w wc))
   case first =>
    have H := HC3.out
    clear HC3
    by_cases c4 : x6_1 < (l0.length : Int)
    ·
     rw [if_pos c4] at H
     have c4b0 : decide (x6_1 < (l0.length : Int)) = true := decide_eq_true c4
     clear c4
     (first | rw [c4b0] | (simp only [i64_w, i32_w]; rw [c4b0]) | skip)
     have H' := Aside0.mk H
     clear H
     go_wp2
     go_meet
     case rel => exact ⟨_, (decide (x6_1 < (l1.length : Int))), (by first | rfl | (simp; done) | (simp [*]; done)), H', ⟨by have := HK1.out; first | omega | exact Nat.le_refl _⟩, ⟨by (with_reducible repeat (first | apply Kd.V_alloc | apply Kd.V_drewN | apply Kd.V_drew)); exact HO_0.out⟩, ⟨by (with_reducible repeat (first | apply Kd.N_alloc | apply Kd.N_drewN | apply Kd.N_drew)); exact HO_5.out⟩, ⟨gw_ HB⟩⟩
    ·
     rw [if_neg c4] at H
     have c4b0 : decide (x6_1 < (l0.length : Int)) = false := decide_eq_false c4
     clear c4
     (first | rw [c4b0] | (simp only [i64_w, i32_w]; rw [c4b0]) | skip)
     have H' := Aside0.mk H
     clear H
     go_wp2
     go_meet
     case rel => exact ⟨_, (false), (by first | rfl | (simp; done) | (simp [*]; done)), H', ⟨by have := HK1.out; first | omega | exact Nat.le_refl _⟩, ⟨by (with_reducible repeat (first | apply Kd.V_alloc | apply Kd.V_drewN | apply Kd.V_drew)); exact HO_0.out⟩, ⟨by (with_reducible repeat (first | apply Kd.N_alloc | apply Kd.N_drewN | apply Kd.N_drew)); exact HO_5.out⟩, ⟨gw_ HB⟩⟩
   case rest =>
    clear HC3
    try clear c1
    try clear p2
    try clear c4
    try clear c4b0
    try clear p2
    obtain ⟨kq, x16_2, rfl, HA, HJ2, HO_0, HO_5, HB⟩ := hcut
    cases kq with
    | zero => exact absurd HA.out (by simp [colloquylaw10_part.j1])
    | succ kj2 =>
     have H := HA.out
     clear HA
     simp only [colloquylaw10_part.j1] at H
     by_cases c5 : x16_2 = true
     ·
      subst c5
      have H1 : (if 0 ≤ x6_1 then (if x6_1 < (l1.length : Int) then (if rdOf false l1 x6_1 = true then (if x6_1 < (l0.length : Int) then (if x5_1.length < 1034834473200 then (colloquylaw10_part.l0 kj2 l0 l1 (x5_1 ++ [(⟨(rd_T35 l0 x6_1).f0, (⟨(rd_T35 l0 x6_1).f1.f0, (⟨(rd_T35 l0 x6_1).f1.f1.f0, (rd_T35 l0 x6_1).f1.f1.f1⟩ : S26), (⟨(rd_T35 l0 x6_1).f1.f2.f0, (rd_T35 l0 x6_1).f1.f2.f1⟩ : S26), (⟨(rd_T35 l0 x6_1).f1.f3.f0, (rd_T35 l0 x6_1).f1.f3.f1, (rd_T35 l0 x6_1).f1.f3.f2, (rd_T35 l0 x6_1).f1.f3.f3, (rd_T35 l0 x6_1).f1.f3.f4, (rd_T35 l0 x6_1).f1.f3.f5⟩ : S28), (⟨(rd_T35 l0 x6_1).f1.f4.f0, (rd_T35 l0 x6_1).f1.f4.f1⟩ : S31)⟩ : S33)⟩ : S35)]) (wrap64 (x6_1 + 1))) else (none)) else (none)) else (colloquylaw10_part.l0 kj2 l0 l1 x5_1 (wrap64 (x6_1 + 1)))) else (none)) else (none)) = some r := by rw [if_pos rfl] at H; exact H
      clear H
      have H := H1
      clear H1
      by_cases c6 : 0 ≤ x6_1
      ·
       rw [if_pos c6] at H
       have c6b0 : decide (0 ≤ x6_1) = true := decide_eq_true c6
       clear c6
       by_cases c7 : x6_1 < (l1.length : Int)
       ·
        rw [if_pos c7] at H
        have c7b0 : decide (x6_1 < (l1.length : Int)) = true := decide_eq_true c7
        clear c7
        obtain ⟨bq8, hbq8⟩ : ∃ b_ : Bool, b_ = (rdOf false l1 x6_1) := ⟨_, rfl⟩
        replace H : (if bq8 = true then (if x6_1 < (l0.length : Int) then (if x5_1.length < 1034834473200 then (colloquylaw10_part.l0 kj2 l0 l1 (x5_1 ++ [(⟨(rd_T35 l0 x6_1).f0, (⟨(rd_T35 l0 x6_1).f1.f0, (⟨(rd_T35 l0 x6_1).f1.f1.f0, (rd_T35 l0 x6_1).f1.f1.f1⟩ : S26), (⟨(rd_T35 l0 x6_1).f1.f2.f0, (rd_T35 l0 x6_1).f1.f2.f1⟩ : S26), (⟨(rd_T35 l0 x6_1).f1.f3.f0, (rd_T35 l0 x6_1).f1.f3.f1, (rd_T35 l0 x6_1).f1.f3.f2, (rd_T35 l0 x6_1).f1.f3.f3, (rd_T35 l0 x6_1).f1.f3.f4, (rd_T35 l0 x6_1).f1.f3.f5⟩ : S28), (⟨(rd_T35 l0 x6_1).f1.f4.f0, (rd_T35 l0 x6_1).f1.f4.f1⟩ : S31)⟩ : S33)⟩ : S35)]) (wrap64 (x6_1 + 1))) else (none)) else (none)) else (colloquylaw10_part.l0 kj2 l0 l1 x5_1 (wrap64 (x6_1 + 1)))) = some r := by rw [← hbq8] at H; exact H
        have Nbq8 := Aside0.mk hbq8
        clear hbq8
        by_cases c9 : bq8 = true
        ·
         subst c9
         have H1 : (if x6_1 < (l0.length : Int) then (if x5_1.length < 1034834473200 then (colloquylaw10_part.l0 kj2 l0 l1 (x5_1 ++ [(⟨(rd_T35 l0 x6_1).f0, (⟨(rd_T35 l0 x6_1).f1.f0, (⟨(rd_T35 l0 x6_1).f1.f1.f0, (rd_T35 l0 x6_1).f1.f1.f1⟩ : S26), (⟨(rd_T35 l0 x6_1).f1.f2.f0, (rd_T35 l0 x6_1).f1.f2.f1⟩ : S26), (⟨(rd_T35 l0 x6_1).f1.f3.f0, (rd_T35 l0 x6_1).f1.f3.f1, (rd_T35 l0 x6_1).f1.f3.f2, (rd_T35 l0 x6_1).f1.f3.f3, (rd_T35 l0 x6_1).f1.f3.f4, (rd_T35 l0 x6_1).f1.f3.f5⟩ : S28), (⟨(rd_T35 l0 x6_1).f1.f4.f0, (rd_T35 l0 x6_1).f1.f4.f1⟩ : S31)⟩ : S33)⟩ : S35)]) (wrap64 (x6_1 + 1))) else (none)) else (none)) = some r := by rw [if_pos rfl] at H; exact H
         clear H
         have H := H1
         clear H1
         by_cases c10 : x6_1 < (l0.length : Int)
         ·
          rw [if_pos c10] at H
          have c10b0 : decide (x6_1 < (l0.length : Int)) = true := decide_eq_true c10
          clear c10
          by_cases c11 : x5_1.length < 1034834473200
          ·
           rw [if_pos c11] at H
           have LMc11 := Aside0.mk c11
           clear c11
           obtain ⟨y347, hy347⟩ : ∃ y_ : List (S35), y_ = (x5_1 ++ [(⟨(rd_T35 l0 x6_1).f0, (⟨(rd_T35 l0 x6_1).f1.f0, (⟨(rd_T35 l0 x6_1).f1.f1.f0, (rd_T35 l0 x6_1).f1.f1.f1⟩ : S26), (⟨(rd_T35 l0 x6_1).f1.f2.f0, (rd_T35 l0 x6_1).f1.f2.f1⟩ : S26), (⟨(rd_T35 l0 x6_1).f1.f3.f0, (rd_T35 l0 x6_1).f1.f3.f1, (rd_T35 l0 x6_1).f1.f3.f2, (rd_T35 l0 x6_1).f1.f3.f3, (rd_T35 l0 x6_1).f1.f3.f4, (rd_T35 l0 x6_1).f1.f3.f5⟩ : S28), (⟨(rd_T35 l0 x6_1).f1.f4.f0, (rd_T35 l0 x6_1).f1.f4.f1⟩ : S31)⟩ : S33)⟩ : S35)]) := ⟨_, rfl⟩
           replace H : (colloquylaw10_part.l0 kj2 l0 l1 y347 (wrap64 (x6_1 + 1))) = some r := by first | (rw [hy347]; with_reducible exact H) | (have H2_ := (Option.bind_some _ _).symm.trans H; rw [hy347]; with_reducible exact H2_) | (have H2_ := (Option.bind_some _ _).symm.trans H; with_reducible exact H2_) | with_reducible exact H | (rw [hy347]; exact H) | exact H
           have Ny347 := Aside0.mk hy347
           clear hy347
           have H' := Aside0.mk H
           clear H
           have p345 : 0 ≤ (x6_1 : Int) := of_decide_eq_true (by first | (with_reducible assumption) | assumption)
           have q345 : x6_1 < (l1.length : Int) := of_decide_eq_true (by first | (with_reducible assumption) | assumption)
           obtain ⟨ad345, e345, hx345_0⟩ := Kd.at_bool HR1.out x6_1 p345 q345
           (try rw [← Nbq8.out] at hx345_0)
           cases e345
           replace hx345_0 := (HB.out.cell (World.block_lt_of_cell? w _ hx345_0)).trans hx345_0
           replace p345 := eq_true p345
           replace q345 := eq_true q345
           have p346 : 0 ≤ (x6_1 : Int) := of_decide_eq_true (by first | (with_reducible assumption) | assumption)
           have q346 : x6_1 < (l0.length : Int) := of_decide_eq_true (by first | (with_reducible assumption) | assumption)
           obtain ⟨ad346, A346_13, c346_13, e346, hx346_0, hx346_1, hx346_2, hx346_3, hx346_4, hx346_5, hx346_6, hx346_7, hx346_8, hx346_9, hx346_10, hx346_11, hx346_12, hx346_13, hl346_13, hi346_13⟩ := at_T35 (Kd.V_reads' HO_0.out).2.2 x6_1 p346 q346
           cases e346
           obtain ⟨ce346, hce346, hMe346, hcc346⟩ := Kd.V_get HO_0.out z35 x6_1 p346 (by first | exact q346 | exact of_decide_eq_true (by first | (with_reducible assumption) | assumption) | (have e_ := (Kd.V_reads' HO_0.out).1; omega))
           obtain ⟨ua346_13, uc346_13, rfl, ul346_13, ge346_13⟩ := k35_openF hMe346
           have hv346_13 := hcc346 13 _ rfl
           rw [add_field _ _ 13 (by omega)] at hv346_13
           replace hv346_13 := Option.some.inj (hv346_13.symm.trans hx346_13)
           injection hv346_13 with hva_ hvn_ hvc_
           rw [hva_] at ge346_13
           rw [hvc_] at ul346_13
           have HL346_13 := Aside0.mk (show Kd.V (Kd.int .i64) 3 _ w.heap.size _ _ ((rd_T35 l0 x6_1).f1.f4.f1) from Kd.V_mk ul346_13 ge346_13)
           clear hva_ hvn_ hvc_ ge346_13 ul346_13
           clear hcc346 hce346
           have HR346_13 := Aside0.mk hi346_13
           have HC346_13 := Aside0.mk hl346_13
           clear hi346_13 hl346_13
           replace p346 := eq_true p346
           replace q346 := eq_true q346
           go_wp2_with (first | ((with_reducible refine gate_builtin (b := .append) (xs := #[.tmp 23, .tmp 28]) rfl ?_); (try (refine gate_guard (by rfl) ?_; dsimp only)); at_builtin; refine Kd.N_append k35 (w0 := w) w.heap.size rfl (.tmp 23) (.tmp 28) 22 35 (.agg #[(.int .i64 0), (.int .i64 0), (.int .i64 0), (.int .i64 0), (.int .i64 0), (.int .i64 0), (.int .i64 0), (.int .i64 0), (.int .i64 0), (.int .i64 0), (.int .i64 0), (.string ⟨#[]⟩), (.int .i64 0), (.slice none 0 0)]) 136 rfl Try.underlying22 info35 rfl (by decide) (by omega) u5 x5_1 (⟨(rd_T35 l0 x6_1).f0, (⟨(rd_T35 l0 x6_1).f1.f0, (⟨(rd_T35 l0 x6_1).f1.f1.f0, (rd_T35 l0 x6_1).f1.f1.f1⟩ : S26), (⟨(rd_T35 l0 x6_1).f1.f2.f0, (rd_T35 l0 x6_1).f1.f2.f1⟩ : S26), (⟨(rd_T35 l0 x6_1).f1.f3.f0, (rd_T35 l0 x6_1).f1.f3.f1, (rd_T35 l0 x6_1).f1.f3.f2, (rd_T35 l0 x6_1).f1.f3.f3, (rd_T35 l0 x6_1).f1.f3.f4, (rd_T35 l0 x6_1).f1.f3.f5⟩ : S28), (⟨(rd_T35 l0 x6_1).f1.f4.f0, (rd_T35 l0 x6_1).f1.f4.f1⟩ : S31)⟩ : S33)⟩ : S35) [.int .i64 ((rd_T35 l0 x6_1).f0), .int .i64 ((rd_T35 l0 x6_1).f1.f0), .int .i64 ((rd_T35 l0 x6_1).f1.f1.f0), .int .i64 ((rd_T35 l0 x6_1).f1.f1.f1), .int .i64 ((rd_T35 l0 x6_1).f1.f2.f0), .int .i64 ((rd_T35 l0 x6_1).f1.f2.f1), .int .i64 ((rd_T35 l0 x6_1).f1.f3.f0), .int .i64 ((rd_T35 l0 x6_1).f1.f3.f1), .int .i64 ((rd_T35 l0 x6_1).f1.f3.f2), .int .i64 ((rd_T35 l0 x6_1).f1.f3.f3), .int .i64 ((rd_T35 l0 x6_1).f1.f3.f4), .string ((rd_T35 l0 x6_1).f1.f3.f5), .int .i64 ((rd_T35 l0 x6_1).f1.f4.f0), .slice A346_13 ((rd_T35 l0 x6_1).f1.f4.f1).length c346_13] (fun k_ => (P0_ k_ ∨ w.heap.size ≤ k_)) (fun k_ => ((fun k_ => (P0_ k_ ∨ w.heap.size ≤ k_))) k_ ∧ some k_ ≠ (u5 : Value).ownBlock) rfl rfl ?aP (fun _ hk => hk) ?aF ?aO ?aB ?aS ?aL ?_; (case aP => exact (k35_mkF _ _ (⟨(rd_T35 l0 x6_1).f0, (⟨(rd_T35 l0 x6_1).f1.f0, (⟨(rd_T35 l0 x6_1).f1.f1.f0, (rd_T35 l0 x6_1).f1.f1.f1⟩ : S26), (⟨(rd_T35 l0 x6_1).f1.f2.f0, (rd_T35 l0 x6_1).f1.f2.f1⟩ : S26), (⟨(rd_T35 l0 x6_1).f1.f3.f0, (rd_T35 l0 x6_1).f1.f3.f1, (rd_T35 l0 x6_1).f1.f3.f2, (rd_T35 l0 x6_1).f1.f3.f3, (rd_T35 l0 x6_1).f1.f3.f4, (rd_T35 l0 x6_1).f1.f3.f5⟩ : S28), (⟨(rd_T35 l0 x6_1).f1.f4.f0, (rd_T35 l0 x6_1).f1.f4.f1⟩ : S31)⟩ : S33)⟩ : S35) (Kd.V_reads' (Kd.V_mono (ok' := (fun k_ => ((fun k_ => (P0_ k_ ∨ w.heap.size ≤ k_))) k_ ∧ some k_ ≠ (u5 : Value).ownBlock)) (HL346_13.out) (fun k_ hk => ⟨hk.1, hk.2⟩))).2.1 (Kd.V_F (Kd.V_mono (ok' := (fun k_ => ((fun k_ => (P0_ k_ ∨ w.heap.size ≤ k_))) k_ ∧ some k_ ≠ (u5 : Value).ownBlock)) (HL346_13.out) (fun k_ hk => ⟨hk.1, hk.2⟩))))); (case aB => exact (gw_ HB)); (case aF => exact (fun k_ hk => (.inr (Nat.le_trans (below_size (gw_ HB)) hk)))); (case aO => exact (Kd.nk HO_5)); (case aS => exact (below_size (gw_ HB))); (case aL => have := LMc11.out; omega); intro v348 w12 ho hb hg hat; rw [← Ny347.out] at ho; have n0_ := Aside0.mk (Kd.V_afterv (ok := (fun k_ => (P0_ k_ ∨ w.heap.size ≤ k_))) (Kd.vk HO_0) hg hat); have n1_ := Aside0.mk (Kd.V_afterv (ok := (fun k_ => (P0_ k_ ∨ w.heap.size ≤ k_))) (Kd.vk HL346_13) hg hat); have n2_ := Aside0.mk (hb); have n3_ := Aside0.mk (ho); clear HO_0; clear HL346_13; clear HB; clear HO_5; have HO_0 := n0_; have HL346_13 := n1_; have HB := n2_; have HO349 := n3_; clear n0_ n1_ n2_ n3_; clear ho hb hg hat))
           go_roundg kj2
           case measure => have := HK1.out; have := HJ2.out; omega
           case rel => exact ⟨(y347), (wrap64 (x6_1 + 1)), (by first | rfl | (simp; done) | (simp [*]; done)), H', ⟨by have := HK1.out; have := HJ2.out; omega⟩, ⟨by (with_reducible repeat (first | apply Kd.V_alloc | apply Kd.V_drewN | apply Kd.V_drew)); exact HO_0.out⟩, ⟨by (with_reducible repeat (first | apply Kd.N_alloc | apply Kd.N_drewN | apply Kd.N_drew)); exact HO349.out⟩, ⟨gw_ HB⟩⟩
          ·
           rw [if_neg c11] at H
           exact absurd H (by simp)
         ·
          rw [if_neg c10] at H
          exact absurd H (by simp)
        ·
         replace c9 := Bool.eq_false_iff.mpr c9
         subst c9
         have H1 : (colloquylaw10_part.l0 kj2 l0 l1 x5_1 (wrap64 (x6_1 + 1))) = some r := by rw [if_neg (show ¬ (false = true) by decide)] at H; exact H
         clear H
         have H := H1
         clear H1
         have H' := Aside0.mk H
         clear H
         have p345 : 0 ≤ (x6_1 : Int) := of_decide_eq_true (by first | (with_reducible assumption) | assumption)
         have q345 : x6_1 < (l1.length : Int) := of_decide_eq_true (by first | (with_reducible assumption) | assumption)
         obtain ⟨ad345, e345, hx345_0⟩ := Kd.at_bool HR1.out x6_1 p345 q345
         (try rw [← Nbq8.out] at hx345_0)
         cases e345
         replace hx345_0 := (HB.out.cell (World.block_lt_of_cell? w _ hx345_0)).trans hx345_0
         replace p345 := eq_true p345
         replace q345 := eq_true q345
         go_wp2
         go_roundg kj2
         case measure => have := HK1.out; have := HJ2.out; omega
         case rel => exact ⟨(x5_1), (wrap64 (x6_1 + 1)), (by first | rfl | (simp; done) | (simp [*]; done)), H', ⟨by have := HK1.out; have := HJ2.out; omega⟩, ⟨by (with_reducible repeat (first | apply Kd.V_alloc | apply Kd.V_drewN | apply Kd.V_drew)); exact HO_0.out⟩, ⟨by (with_reducible repeat (first | apply Kd.N_alloc | apply Kd.N_drewN | apply Kd.N_drew)); exact HO_5.out⟩, ⟨gw_ HB⟩⟩
       ·
        rw [if_neg c7] at H
        exact absurd H (by simp)
      ·
       rw [if_neg c6] at H
       exact absurd H (by simp)
     ·
      replace c5 := Bool.eq_false_iff.mpr c5
      subst c5
      have H1 : (some x5_1) = some r := by rw [if_neg (show ¬ (false = true) by decide)] at H; exact H
      clear H
      have H := H1
      clear H1
      obtain rfl := Option.some.inj H
      go_wp2
      go_ret
      exact ⟨_, by first | rfl | (simp [errW_none, errW_some] <;> rfl) | (simp [*, errW_none, errW_some] <;> rfl), by (with_reducible repeat (first | apply Kd.N_alloc | apply Kd.N_drewN | apply Kd.N_drew)); exact HO_5.out, gw_ HB⟩

end Go.Proofs.Ytomgiaakhpemaaa.P
