/- Plain Lean functions and their contracts over the translation, written by a program of this session (myprint.py, over the kit's print); no condition but each contract's own. -/
import Derived.Test.YtomgiaakhpemaaaPx0
import Derived.Test.YtomgiaakhpemaaaPx3
import Derived.Test.YtomgiaakhpemaaaPx4
import Derived.Test.YtomgiaakhpemaaaPx5
import Derived.Test.YtomgiaakhpemaaaPx6
namespace Go.Proofs.Ytomgiaakhpemaaa.P
open Go.RowKit Go.Proofs.YtomgiaakhpemaaaW.PrintWords Go.Proofs.YtomgiaakhpemaaaW.PrintLast Go.Proofs.YtomgiaakhpemaaaW.PrintMore
attribute [local go_sem] max2_int min2_int max_two min_two max_three min_three max_four min_four   -- for this text's walks alone
set_option linter.unusedVariables false
set_option linter.unusedSimpArgs false

abbrev q23_0 : Array Bool := #[false, false, false, false, false, false, false, false, false, false, false, false, false]
abbrev q23_1 : Array Bool := #[true, false, false, false, false, false, false, false, false, false, false, false, false]
abbrev q23_2 : Array Bool := #[true, true, false, false, false, false, false, false, false, false, false, false, false]
abbrev q23_3 : Array Bool := #[true, true, true, false, false, false, false, false, false, false, false, false, false]
abbrev q23_4 : Array Bool := #[true, true, true, true, false, false, false, false, false, false, false, false, false]
abbrev q23_5 : Array Bool := #[true, true, true, true, false, true, false, false, false, false, false, false, false]
abbrev q23_6 : Array Bool := #[true, true, true, true, false, true, true, false, false, false, false, false, false]
abbrev q23_7 : Array Bool := #[true, true, true, true, false, true, true, true, false, false, false, false, false]
abbrev q23_8 : Array Bool := #[true, true, true, true, false, true, true, true, true, false, false, false, false]
abbrev q23_9 : Array Bool := #[true, true, true, true, true, true, true, true, true, false, false, false, false]
abbrev q23_10 : Array Bool := #[true, true, true, true, true, true, true, true, true, true, false, false, false]
abbrev q23_11 : Array Bool := #[true, true, true, true, true, true, true, true, true, true, true, false, false]
abbrev q23_12 : Array Bool := #[true, true, true, true, true, true, true, true, true, true, true, true, false]
abbrev q23_13 : Array Bool := #[true, true, true, true, true, true, true, true, true, true, true, true, true]
def regain_all.f (a0 : Int) (a1 : Int) (l2 : List (S35)) : Option (Int × Int × Int × Int × Int × Int × ByteArray × Int × List Int × Bool) := (regain_same.f a1 l2).bind fun t167 => (if t167 = true then (if 0 < (l2.length : Int) then (some (2, (rd_T35 l2 0).f1.f3.f0, (rd_T35 l2 0).f1.f3.f1, (rd_T35 l2 0).f1.f3.f2, (rd_T35 l2 0).f1.f3.f3, (rd_T35 l2 0).f1.f3.f4, (rd_T35 l2 0).f1.f3.f5, (rd_T35 l2 0).f1.f4.f0, (rd_T35 l2 0).f1.f4.f1, true)) else (none)) else (some (0, 0, 0, 0, 0, 0, (⟨#[]⟩ : ByteArray), 0, ([] : List Int), false)))
def regain_all.T3 : Bool × List (List Nat × List Nat) := (true, [([], []), ([0], [0]), ([1], [1]), ([2], [2]), ([3], [3]), ([], []), ([5], [5]), ([6], [6]), ([7], [7]), ([8], [8]), ([4, 9], [4, 9]), ([10, 0, 1, 2, 3, 4, 5, 6, 7, 8, 9, 10], [10]), ([11, 0, 1, 2, 3, 4, 5, 6, 7, 8, 9, 10, 11], [])])
def regain_all.B3 : List Nat := [0, 1, 3, 7, 15, 0, 32, 96, 224, 480, 1023, 2047, 4095]
theorem regain_all.tab3 : rtab .any (opsOf Try.f23 3) = regain_all.T3 := by kernel_rfl
theorem regain_all.bits3 : waitsOk regain_all.T3.2 regain_all.B3 = true := by kernel_rfl
set_option maxHeartbeats 8000000 in
set_option maxRecDepth 100000 in
theorem regain_all.calls (a0 : Int) (a1 : Int) (P2_ : Nat → Prop) (A2 : Option Addr) (c2 : Nat) (l2 : List (S35)) (r1 : Int) (r2 : Int) (r3 : Int) (r4 : Int) (r5 : Int) (r6 : Int) (r7 : ByteArray) (r8 : Int) (r9 : List Int) (r10 : Bool) (w : World) (hs2 : Kd.V k35 35 w w.heap.size (fun k_ => P2_ k_) (.slice A2 l2.length c2) l2) (h : regain_all.f a0 a1 l2 = some (r1, r2, r3, r4, r5, r6, r7, r8, r9, r10)) :
  Calls Try.prog 23 #[.int .i64 a0, .int .i64 a1, .slice A2 l2.length c2] w fun e w' => ∃ v8_ : Value, e = .returned (.tuple #[.agg #[.int .i64 r1, .int .i64 r2, .int .i64 r3, .int .i64 r4, .int .i64 r5, .int .i64 r6, .string r7, .int .i64 r8, v8_], .bool r10]) ∧ Kd.V (Kd.int .i64) 3 w' w.heap.size (fun k_ => (P2_ k_ ∨ w.heap.size ≤ k_)) v8_ r9 ∧ Below w.heap.size w w' := by
 have hu37 := Try.underlying37
 have hu28 := Try.underlying28
 have hu31 := Try.underlying31
 have HO2 := Aside0.mk (show Kd.V k35 35 w w.heap.size (fun k_ => (P2_ k_ ∨ w.heap.size ≤ k_)) (.slice A2 l2.length c2) l2 from Kd.V_mono hs2 (fun k_ hk => .inl hk))
 have HB := Aside0.mk (Below.refl w.heap.size w)
 have H : ((regain_same.f a1 l2).bind fun t167 => (if t167 = true then (if 0 < (l2.length : Int) then (some (2, (rd_T35 l2 0).f1.f3.f0, (rd_T35 l2 0).f1.f3.f1, (rd_T35 l2 0).f1.f3.f2, (rd_T35 l2 0).f1.f3.f3, (rd_T35 l2 0).f1.f3.f4, (rd_T35 l2 0).f1.f3.f5, (rd_T35 l2 0).f1.f4.f0, (rd_T35 l2 0).f1.f4.f1, true)) else (none)) else (some (0, 0, 0, 0, 0, 0, (⟨#[]⟩ : ByteArray), 0, ([] : List Int), false)))) = some (r1, r2, r3, r4, r5, r6, r7, r8, r9, r10) := h
 clear h
 replace H := Option.bind_eq_some_iff.mp H
 obtain ⟨t167, A40, H⟩ := H
 replace H : (if t167 = true then (if 0 < (l2.length : Int) then (some (2, (rd_T35 l2 0).f1.f3.f0, (rd_T35 l2 0).f1.f3.f1, (rd_T35 l2 0).f1.f3.f2, (rd_T35 l2 0).f1.f3.f3, (rd_T35 l2 0).f1.f3.f4, (rd_T35 l2 0).f1.f3.f5, (rd_T35 l2 0).f1.f4.f0, (rd_T35 l2 0).f1.f4.f1, true)) else (none)) else (some (0, 0, 0, 0, 0, 0, (⟨#[]⟩ : ByteArray), 0, ([] : List Int), false))) = some (r1, r2, r3, r4, r5, r6, r7, r8, r9, r10) := H
 have A4 := Aside0.mk A40
 clear A40
 by_cases c5 : t167 = true
 ·
  subst c5
  have H1 : (if 0 < (l2.length : Int) then (some (2, (rd_T35 l2 0).f1.f3.f0, (rd_T35 l2 0).f1.f3.f1, (rd_T35 l2 0).f1.f3.f2, (rd_T35 l2 0).f1.f3.f3, (rd_T35 l2 0).f1.f3.f4, (rd_T35 l2 0).f1.f3.f5, (rd_T35 l2 0).f1.f4.f0, (rd_T35 l2 0).f1.f4.f1, true)) else (none)) = some (r1, r2, r3, r4, r5, r6, r7, r8, r9, r10) := by rw [if_pos rfl] at H; exact H
  clear H
  have H := H1
  clear H1
  by_cases c6 : 0 < (l2.length : Int)
  ·
   rw [if_pos c6] at H
   have c6b0 : decide (0 < (l2.length : Int)) = true := decide_eq_true c6
   have c6b1 : decide (0 < l2.length) = true := decide_eq_true (by omega)
   clear c6
   simp only [Option.some.injEq, Prod.mk.injEq] at H
   obtain ⟨rfl, rfl, rfl, rfl, rfl, rfl, rfl, rfl, rfl, rfl⟩ := H
   go_enter Try.func23, Try.ntmps23
   try go_wp2_with (first | ((with_reducible refine gate_dst (N := 6) rfl ?_); refine box_event ?hg (N := 6) ?hd (cs := #[.int .i64 0, .int .i64 0, .int .i64 0, .int .i64 0, .int .i64 0, .int .i64 0, .string (⟨#[]⟩ : ByteArray), .int .i64 0, .slice none 0 0]) (t := 37) ?hr ?_; (case hd => rfl); (case hg => rfl); (case hr => first | (go_simp; done) | (go_simp; rfl)); intro gb166 hg w7 hbox hb; have n0_ := Aside0.mk (Kd.V_below (Kd.V_elderB (Kd.vk HO2) gb166 (Nat.le_of_eq hg.symm)) hb); have s_ := step_size_ (gw_ HB) hb hg; have n1_ := Aside0.mk s_.1; have n2_ := Aside0.mk (hbox); have n3_ := Aside0.mk s_.2; clear s_; have n4_ := n3_; clear HO2; clear HB; have HO2 := n0_; have HB := n1_; have BK166 := n2_; have GW166 := n3_; have GE166 := n4_; clear n0_ n1_ n2_ n3_ n4_; clear hb hbox hg) | ((with_reducible refine gate_callee (f := 32) rfl ?_); refine goesL_ (some 10) rfl rfl Try.func32 (by kernel_rfl) rfl #[.int .i64 a1, .slice A2 l2.length c2] rfl (by (try simp only [List.map_toArray, List.map_cons, List.map_nil]); first | done | rfl | (simp only [List.length_drop, List.length_take]; rfl)) ?_; (with_reducible refine (regain_same.calls a1 _ _ l2 true _ ?side1 ?side2 A4.out).mono ?_); (case side1 => repeat (first | exact (Kd.V_reads' HO2.out).2.2 | (with_reducible refine Kd.C_alloc ?_ _) | (with_reducible refine Kd.C_drewN ?_ _) | (with_reducible refine Kd.C_drew ?_))); (case side2 => exact (Kd.V_reads' HO2.out).2.1); rintro e w8 ⟨rfl, hb⟩; refine ⟨_, rfl, ?_⟩; have n0_ := Aside0.mk (Kd.V_below (Kd.vk HO2) hb); have n1_ := Aside0.mk (blk_below (g := gb166) (bk BK166) hb); have n2_ := Aside0.mk (below_step (gw_ HB) hb); clear HO2; clear BK166; clear HB; have HO2 := n0_; have BK166 := n1_; have HB := n2_; clear n0_ n1_ n2_; (try clear hb); (try clear hb2); (try clear hk); (try clear hi)))
   have n0_ := Aside0.mk (Kd.V_drew HO2.out)
   have n1_ := Aside0.mk (blk_drew BK166.out)
   have n2_ := Aside0.mk (below_drew1 HB.out)
   clear HO2
   clear BK166
   clear HB
   have HO2 := n0_
   have BK166 := n1_
   have HB := n2_
   clear n0_ n1_ n2_
   have p168 : 0 ≤ (0 : Int) := (by omega)
   have q168 : 0 < (l2.length : Int) := of_decide_eq_true (by first | (with_reducible assumption) | assumption)
   obtain ⟨ad168, A168_13, c168_13, e168, hx168_0, hx168_1, hx168_2, hx168_3, hx168_4, hx168_5, hx168_6, hx168_7, hx168_8, hx168_9, hx168_10, hx168_11, hx168_12, hx168_13, hl168_13, hi168_13⟩ := at_T35 (Kd.V_reads' HO2.out).2.2 0 p168 q168
   cases e168
   obtain ⟨ce168, hce168, hMe168, hcc168⟩ := Kd.V_get HO2.out z35 0 p168 (by first | exact q168 | exact of_decide_eq_true (by first | (with_reducible assumption) | assumption) | (have e_ := (Kd.V_reads' HO2.out).1; omega))
   obtain ⟨ua168_13, uc168_13, rfl, ul168_13, ge168_13⟩ := k35_openF hMe168
   have hv168_13 := hcc168 13 _ rfl
   rw [add_field _ _ 13 (by omega)] at hv168_13
   replace hv168_13 := Option.some.inj (hv168_13.symm.trans hx168_13)
   injection hv168_13 with hva_ hvn_ hvc_
   rw [hva_] at ge168_13
   rw [hvc_] at ul168_13
   have HL168_13 := Aside0.mk (show Kd.V (Kd.int .i64) 3 _ w.heap.size _ _ ((rd_T35 l2 0).f1.f4.f1) from Kd.V_mk ul168_13 ge168_13)
   clear hva_ hvn_ hvc_ ge168_13 ul168_13
   clear hcc168 hce168
   have qi168 : (0 < l2.length) = True := eq_true (by omega)
   (try rw [show ((0 : Int)).toNat = 0 from rfl] at hx168_0)
   (try rw [show 0 * 14 = 0 from rfl] at hx168_0)
   (try rw [Addr.add_zero'] at hx168_0)
   (try rw [show ((0 : Int)).toNat = 0 from rfl] at hx168_1)
   (try rw [show 0 * 14 = 0 from rfl] at hx168_1)
   (try rw [Addr.add_zero'] at hx168_1)
   (try rw [show ((0 : Int)).toNat = 0 from rfl] at hx168_2)
   (try rw [show 0 * 14 = 0 from rfl] at hx168_2)
   (try rw [Addr.add_zero'] at hx168_2)
   (try rw [show ((0 : Int)).toNat = 0 from rfl] at hx168_3)
   (try rw [show 0 * 14 = 0 from rfl] at hx168_3)
   (try rw [Addr.add_zero'] at hx168_3)
   (try rw [show ((0 : Int)).toNat = 0 from rfl] at hx168_4)
   (try rw [show 0 * 14 = 0 from rfl] at hx168_4)
   (try rw [Addr.add_zero'] at hx168_4)
   (try rw [show ((0 : Int)).toNat = 0 from rfl] at hx168_5)
   (try rw [show 0 * 14 = 0 from rfl] at hx168_5)
   (try rw [Addr.add_zero'] at hx168_5)
   (try rw [show ((0 : Int)).toNat = 0 from rfl] at hx168_6)
   (try rw [show 0 * 14 = 0 from rfl] at hx168_6)
   (try rw [Addr.add_zero'] at hx168_6)
   (try rw [show ((0 : Int)).toNat = 0 from rfl] at hx168_7)
   (try rw [show 0 * 14 = 0 from rfl] at hx168_7)
   (try rw [Addr.add_zero'] at hx168_7)
   (try rw [show ((0 : Int)).toNat = 0 from rfl] at hx168_8)
   (try rw [show 0 * 14 = 0 from rfl] at hx168_8)
   (try rw [Addr.add_zero'] at hx168_8)
   (try rw [show ((0 : Int)).toNat = 0 from rfl] at hx168_9)
   (try rw [show 0 * 14 = 0 from rfl] at hx168_9)
   (try rw [Addr.add_zero'] at hx168_9)
   (try rw [show ((0 : Int)).toNat = 0 from rfl] at hx168_10)
   (try rw [show 0 * 14 = 0 from rfl] at hx168_10)
   (try rw [Addr.add_zero'] at hx168_10)
   (try rw [show ((0 : Int)).toNat = 0 from rfl] at hx168_11)
   (try rw [show 0 * 14 = 0 from rfl] at hx168_11)
   (try rw [Addr.add_zero'] at hx168_11)
   (try rw [show ((0 : Int)).toNat = 0 from rfl] at hx168_12)
   (try rw [show 0 * 14 = 0 from rfl] at hx168_12)
   (try rw [Addr.add_zero'] at hx168_12)
   (try rw [show ((0 : Int)).toNat = 0 from rfl] at hx168_13)
   (try rw [show 0 * 14 = 0 from rfl] at hx168_13)
   (try rw [Addr.add_zero'] at hx168_13)
   have HR168_13 := Aside0.mk hi168_13
   have HC168_13 := Aside0.mk hl168_13
   clear hi168_13 hl168_13
   replace p168 := eq_true p168
   replace q168 := eq_true q168
   have p169 : 0 ≤ (0 : Int) := (by omega)
   have q169 : 0 < (l2.length : Int) := of_decide_eq_true (by first | (with_reducible assumption) | assumption)
   obtain ⟨ad169, A169_13, c169_13, e169, hx169_0, hx169_1, hx169_2, hx169_3, hx169_4, hx169_5, hx169_6, hx169_7, hx169_8, hx169_9, hx169_10, hx169_11, hx169_12, hx169_13, hl169_13, hi169_13⟩ := at_T35 (Kd.V_reads' HO2.out).2.2 0 p169 q169
   obtain rfl : ad168 = ad169 := (by injection e169)
   obtain ⟨ce169, hce169, hMe169, hcc169⟩ := Kd.V_get HO2.out z35 0 p169 (by first | exact q169 | exact of_decide_eq_true (by first | (with_reducible assumption) | assumption) | (have e_ := (Kd.V_reads' HO2.out).1; omega))
   obtain ⟨ua169_13, uc169_13, rfl, ul169_13, ge169_13⟩ := k35_openF hMe169
   have hv169_13 := hcc169 13 _ rfl
   rw [add_field _ _ 13 (by omega)] at hv169_13
   replace hv169_13 := Option.some.inj (hv169_13.symm.trans hx169_13)
   injection hv169_13 with hva_ hvn_ hvc_
   rw [hva_] at ge169_13
   rw [hvc_] at ul169_13
   have HL169_13 := Aside0.mk (show Kd.V (Kd.int .i64) 3 _ w.heap.size _ _ ((rd_T35 l2 0).f1.f4.f1) from Kd.V_mk ul169_13 ge169_13)
   clear hva_ hvn_ hvc_ ge169_13 ul169_13
   clear hcc169 hce169
   have qi169 : (0 < l2.length) = True := eq_true (by omega)
   (try rw [show ((0 : Int)).toNat = 0 from rfl] at hx169_0)
   (try rw [show 0 * 14 = 0 from rfl] at hx169_0)
   (try rw [Addr.add_zero'] at hx169_0)
   (try rw [show ((0 : Int)).toNat = 0 from rfl] at hx169_1)
   (try rw [show 0 * 14 = 0 from rfl] at hx169_1)
   (try rw [Addr.add_zero'] at hx169_1)
   (try rw [show ((0 : Int)).toNat = 0 from rfl] at hx169_2)
   (try rw [show 0 * 14 = 0 from rfl] at hx169_2)
   (try rw [Addr.add_zero'] at hx169_2)
   (try rw [show ((0 : Int)).toNat = 0 from rfl] at hx169_3)
   (try rw [show 0 * 14 = 0 from rfl] at hx169_3)
   (try rw [Addr.add_zero'] at hx169_3)
   (try rw [show ((0 : Int)).toNat = 0 from rfl] at hx169_4)
   (try rw [show 0 * 14 = 0 from rfl] at hx169_4)
   (try rw [Addr.add_zero'] at hx169_4)
   (try rw [show ((0 : Int)).toNat = 0 from rfl] at hx169_5)
   (try rw [show 0 * 14 = 0 from rfl] at hx169_5)
   (try rw [Addr.add_zero'] at hx169_5)
   (try rw [show ((0 : Int)).toNat = 0 from rfl] at hx169_6)
   (try rw [show 0 * 14 = 0 from rfl] at hx169_6)
   (try rw [Addr.add_zero'] at hx169_6)
   (try rw [show ((0 : Int)).toNat = 0 from rfl] at hx169_7)
   (try rw [show 0 * 14 = 0 from rfl] at hx169_7)
   (try rw [Addr.add_zero'] at hx169_7)
   (try rw [show ((0 : Int)).toNat = 0 from rfl] at hx169_8)
   (try rw [show 0 * 14 = 0 from rfl] at hx169_8)
   (try rw [Addr.add_zero'] at hx169_8)
   (try rw [show ((0 : Int)).toNat = 0 from rfl] at hx169_9)
   (try rw [show 0 * 14 = 0 from rfl] at hx169_9)
   (try rw [Addr.add_zero'] at hx169_9)
   (try rw [show ((0 : Int)).toNat = 0 from rfl] at hx169_10)
   (try rw [show 0 * 14 = 0 from rfl] at hx169_10)
   (try rw [Addr.add_zero'] at hx169_10)
   (try rw [show ((0 : Int)).toNat = 0 from rfl] at hx169_11)
   (try rw [show 0 * 14 = 0 from rfl] at hx169_11)
   (try rw [Addr.add_zero'] at hx169_11)
   (try rw [show ((0 : Int)).toNat = 0 from rfl] at hx169_12)
   (try rw [show 0 * 14 = 0 from rfl] at hx169_12)
   (try rw [Addr.add_zero'] at hx169_12)
   (try rw [show ((0 : Int)).toNat = 0 from rfl] at hx169_13)
   (try rw [show 0 * 14 = 0 from rfl] at hx169_13)
   (try rw [Addr.add_zero'] at hx169_13)
   have HR169_13 := Aside0.mk hi169_13
   have HC169_13 := Aside0.mk hl169_13
   clear hi169_13 hl169_13
   replace p169 := eq_true p169
   replace q169 := eq_true q169
   have ea_ := Option.some.inj (hx168_13.symm.trans hx169_13)
   injection ea_ with ea_ en_ ec_
   subst ea_
   subst ec_
   clear en_
   refine start_ (n := 13) (S := fun w' => w'.cell? ad168 = some (.int .i64 ((rd_T35 l2 0).f0)) ∧ w'.cell? ⟨ad168.block, ad168.off + 1, none⟩ = some (.int .i64 ((rd_T35 l2 0).f1.f0)) ∧ w'.cell? ⟨ad168.block, ad168.off + 2, none⟩ = some (.int .i64 ((rd_T35 l2 0).f1.f1.f0)) ∧ w'.cell? ⟨ad168.block, ad168.off + 3, none⟩ = some (.int .i64 ((rd_T35 l2 0).f1.f1.f1)) ∧ w'.cell? ⟨ad168.block, ad168.off + 4, none⟩ = some (.int .i64 ((rd_T35 l2 0).f1.f2.f0)) ∧ w'.cell? ⟨ad168.block, ad168.off + 5, none⟩ = some (.int .i64 ((rd_T35 l2 0).f1.f2.f1)) ∧ w'.cell? ⟨ad168.block, ad168.off + 6, none⟩ = some (.int .i64 ((rd_T35 l2 0).f1.f3.f0)) ∧ w'.cell? ⟨ad168.block, ad168.off + 7, none⟩ = some (.int .i64 ((rd_T35 l2 0).f1.f3.f1)) ∧ w'.cell? ⟨ad168.block, ad168.off + 8, none⟩ = some (.int .i64 ((rd_T35 l2 0).f1.f3.f2)) ∧ w'.cell? ⟨ad168.block, ad168.off + 9, none⟩ = some (.int .i64 ((rd_T35 l2 0).f1.f3.f3)) ∧ w'.cell? ⟨ad168.block, ad168.off + 10, none⟩ = some (.int .i64 ((rd_T35 l2 0).f1.f3.f4)) ∧ w'.cell? ⟨ad168.block, ad168.off + 11, none⟩ = some (.string ((rd_T35 l2 0).f1.f3.f5)) ∧ w'.cell? ⟨ad168.block, ad168.off + 12, none⟩ = some (.int .i64 ((rd_T35 l2 0).f1.f4.f0)) ∧ w'.cell? ⟨ad168.block, ad168.off + 13, none⟩ = some (.slice A168_13 ((rd_T35 l2 0).f1.f4.f1).length c168_13) ∧ w'.cell? ad168 = some (.int .i64 ((rd_T35 l2 0).f0)) ∧ w'.cell? ⟨ad168.block, ad168.off + 1, none⟩ = some (.int .i64 ((rd_T35 l2 0).f1.f0)) ∧ w'.cell? ⟨ad168.block, ad168.off + 2, none⟩ = some (.int .i64 ((rd_T35 l2 0).f1.f1.f0)) ∧ w'.cell? ⟨ad168.block, ad168.off + 3, none⟩ = some (.int .i64 ((rd_T35 l2 0).f1.f1.f1)) ∧ w'.cell? ⟨ad168.block, ad168.off + 4, none⟩ = some (.int .i64 ((rd_T35 l2 0).f1.f2.f0)) ∧ w'.cell? ⟨ad168.block, ad168.off + 5, none⟩ = some (.int .i64 ((rd_T35 l2 0).f1.f2.f1)) ∧ w'.cell? ⟨ad168.block, ad168.off + 6, none⟩ = some (.int .i64 ((rd_T35 l2 0).f1.f3.f0)) ∧ w'.cell? ⟨ad168.block, ad168.off + 7, none⟩ = some (.int .i64 ((rd_T35 l2 0).f1.f3.f1)) ∧ w'.cell? ⟨ad168.block, ad168.off + 8, none⟩ = some (.int .i64 ((rd_T35 l2 0).f1.f3.f2)) ∧ w'.cell? ⟨ad168.block, ad168.off + 9, none⟩ = some (.int .i64 ((rd_T35 l2 0).f1.f3.f3)) ∧ w'.cell? ⟨ad168.block, ad168.off + 10, none⟩ = some (.int .i64 ((rd_T35 l2 0).f1.f3.f4)) ∧ w'.cell? ⟨ad168.block, ad168.off + 11, none⟩ = some (.string ((rd_T35 l2 0).f1.f3.f5)) ∧ w'.cell? ⟨ad168.block, ad168.off + 12, none⟩ = some (.int .i64 ((rd_T35 l2 0).f1.f4.f0)) ∧ w'.cell? ⟨ad168.block, ad168.off + 13, none⟩ = some (.slice A168_13 ((rd_T35 l2 0).f1.f4.f1).length c168_13)) (ds := [11]) q23_0 (by kernel_rfl) rfl rfl ⟨hx168_0, hx168_1, hx168_2, hx168_3, hx168_4, hx168_5, hx168_6, hx168_7, hx168_8, hx168_9, hx168_10, hx168_11, hx168_12, hx168_13, hx169_0, hx169_1, hx169_2, hx169_3, hx169_4, hx169_5, hx169_6, hx169_7, hx169_8, hx169_9, hx169_10, hx169_11, hx169_12, hx169_13⟩ (fun hHeld => ?_); refine with_tabW regain_all.tab3 regain_all.bits3 (fun HT_ HW_ => ?_)
   generalize w8.drew = w9 at HO2 BK166 HB HL168_13 HL169_13 HR168_13 HR169_13 hx168_0 hx168_1 hx168_10 hx168_11 hx168_12 hx168_13 hx168_2 hx168_3 hx168_4 hx168_5 hx168_6 hx168_7 hx168_8 hx168_9 hx169_0 hx169_1 hx169_10 hx169_11 hx169_12 hx169_13 hx169_2 hx169_3 hx169_4 hx169_5 hx169_6 hx169_7 hx169_8 hx169_9 hHeld ⊢
   refine pure_ (i := 0) (N := some 13) (v := ?_) (a' := ?_) q23_1 rfl rfl (any_of HT_.out (by kernel_rfl)) (fun _ _ _ h => h) (Or.inl ⟨by rfl, ?_⟩) ?_ ?_
   rotate_left
   ·
    intro w'
    go_simp
    with_reducible rfl
   rotate_left
   ·
    simp only [Act.put, List.setIfInBounds_toArray, List.set_cons_zero, List.set_cons_succ, i64_w, i32_w]
    rfl
   refine pure_ (i := 1) (N := some 14) (v := ?_) (a' := ?_) q23_2 rfl rfl (any_of HT_.out (by kernel_rfl)) (fun _ _ _ h => h) (Or.inl ⟨by rfl, ?_⟩) ?_ ?_
   rotate_left
   ·
    intro w'
    go_simp
    with_reducible rfl
   rotate_left
   ·
    simp only [Act.put, List.setIfInBounds_toArray, List.set_cons_zero, List.set_cons_succ, i64_w, i32_w]
    rfl
   refine pure_ (i := 2) (N := some 15) (v := ?_) (a' := ?_) q23_3 rfl rfl (any_of HT_.out (by kernel_rfl)) (fun _ _ _ h => h) (Or.inl ⟨by rfl, ?_⟩) ?_ ?_
   rotate_left
   ·
    intro w'
    go_simp
    with_reducible rfl
   rotate_left
   ·
    simp only [Act.put, List.setIfInBounds_toArray, List.set_cons_zero, List.set_cons_succ, i64_w, i32_w]
    rfl
   refine pure_ (i := 3) (N := some 16) (v := ?_) (a' := ?_) q23_4 rfl rfl (any_of HT_.out (by kernel_rfl)) (fun _ _ _ h => h) (Or.inl ⟨by rfl, ?_⟩) ?_ ?_
   rotate_left
   ·
    intro w'
    go_simp
    with_reducible rfl
   rotate_left
   ·
    simp only [Act.put, List.setIfInBounds_toArray, List.set_cons_zero, List.set_cons_succ, i64_w, i32_w]
    rfl
   refine pure_ (i := 5) (N := some 18) (v := ?_) (a' := ?_) q23_5 rfl rfl (any_of HT_.out (by kernel_rfl)) (fun _ _ _ h => h) (Or.inl ⟨by rfl, ?_⟩) ?_ ?_
   rotate_left
   ·
    intro w'
    go_simp
    with_reducible rfl
   rotate_left
   ·
    simp only [Act.put, List.setIfInBounds_toArray, List.set_cons_zero, List.set_cons_succ, i64_w, i32_w]
    rfl
   refine pure_ (i := 6) (N := some 19) (v := ?_) (a' := ?_) q23_6 rfl rfl (any_of HT_.out (by kernel_rfl)) (fun _ _ _ h => h) (Or.inl ⟨by rfl, ?_⟩) ?_ ?_
   rotate_left
   ·
    intro w'
    go_simp
    with_reducible rfl
   rotate_left
   ·
    simp only [Act.put, List.setIfInBounds_toArray, List.set_cons_zero, List.set_cons_succ, i64_w, i32_w]
    rfl
   refine pure_ (i := 7) (N := some 20) (v := ?_) (a' := ?_) q23_7 rfl rfl (any_of HT_.out (by kernel_rfl)) (fun _ _ _ h => h) (Or.inl ⟨by rfl, ?_⟩) ?_ ?_
   rotate_left
   ·
    intro w'
    go_simp
    with_reducible rfl
   rotate_left
   ·
    simp only [Act.put, List.setIfInBounds_toArray, List.set_cons_zero, List.set_cons_succ, i64_w, i32_w]
    rfl
   refine pure_ (i := 8) (N := some 21) (v := ?_) (a' := ?_) q23_8 rfl rfl (any_of HT_.out (by kernel_rfl)) (fun _ _ _ h => h) (Or.inl ⟨by rfl, ?_⟩) ?_ ?_
   rotate_left
   ·
    intro w'
    go_simp
    with_reducible rfl
   rotate_left
   ·
    simp only [Act.put, List.setIfInBounds_toArray, List.set_cons_zero, List.set_cons_succ, i64_w, i32_w]
    rfl
   refine take_ (i := 4) (N := some 17) (v := ?_) (a' := ?_) q23_9 rfl rfl (take_ofW HT_.out HW_.out (by kernel_rfl)) (fun _ _ _ h => h) (Or.inl ⟨by rfl, ?_⟩) hHeld ?_ ?_
   rotate_left
   ·
    rintro w' ⟨s0, s1, s2, s3, s4, s5, s6, s7, s8, s9, s10, s11, s12, s13, s14, s15, s16, s17, s18, s19, s20, s21, s22, s23, s24, s25, s26, s27⟩
    go_simp
    with_reducible rfl
   rotate_left
   ·
    simp only [Act.put, List.setIfInBounds_toArray, List.set_cons_zero, List.set_cons_succ, i64_w, i32_w]
    rfl
   refine take_ (i := 9) (N := some 22) (v := ?_) (a' := ?_) q23_10 rfl rfl (take_ofW HT_.out HW_.out (by kernel_rfl)) (fun _ _ _ h => h) (Or.inl ⟨by rfl, ?_⟩) hHeld ?_ ?_
   rotate_left
   ·
    rintro w' ⟨s0, s1, s2, s3, s4, s5, s6, s7, s8, s9, s10, s11, s12, s13, s14, s15, s16, s17, s18, s19, s20, s21, s22, s23, s24, s25, s26, s27⟩
    go_simp
    with_reducible rfl
   rotate_left
   ·
    simp only [Act.put, List.setIfInBounds_toArray, List.set_cons_zero, List.set_cons_succ, i64_w, i32_w]
    rfl
   refine pure_ (i := 10) (N := some 23) (v := ?_) (a' := ?_) q23_11 rfl rfl (any_of HT_.out (by kernel_rfl)) (fun _ _ _ h => h) (Or.inl ⟨by rfl, ?_⟩) ?_ ?_
   rotate_left
   ·
    intro w'
    go_simp
    with_reducible rfl
   rotate_left
   ·
    simp only [Act.put, List.setIfInBounds_toArray, List.set_cons_zero, List.set_cons_succ, i64_w, i32_w]
    rfl
   refine last_ (i := 11) (N := none) q23_12 rfl rfl (one_of HT_.out (by kernel_rfl)) (by decide) (fun K hK => ?_)
   have hs10 : w9.cell? ⟨gb166, 0, none⟩ = some (.int .i64 0) := (blk_cell BK166.out 0).trans rfl
   have hfs10 := blk_frozen BK166.out 0
   have hs11 : w9.cell? ⟨gb166, 1, none⟩ = some (.int .i64 0) := (blk_cell BK166.out 1).trans rfl
   have hfs11 := blk_frozen BK166.out 1
   have hs12 : w9.cell? ⟨gb166, 2, none⟩ = some (.int .i64 0) := (blk_cell BK166.out 2).trans rfl
   have hfs12 := blk_frozen BK166.out 2
   have hs13 : w9.cell? ⟨gb166, 3, none⟩ = some (.int .i64 0) := (blk_cell BK166.out 3).trans rfl
   have hfs13 := blk_frozen BK166.out 3
   have hs14 : w9.cell? ⟨gb166, 4, none⟩ = some (.int .i64 0) := (blk_cell BK166.out 4).trans rfl
   have hfs14 := blk_frozen BK166.out 4
   have hs15 : w9.cell? ⟨gb166, 5, none⟩ = some (.int .i64 0) := (blk_cell BK166.out 5).trans rfl
   have hfs15 := blk_frozen BK166.out 5
   have hs16 : w9.cell? ⟨gb166, 6, none⟩ = some (.string (⟨#[]⟩ : ByteArray)) := (blk_cell BK166.out 6).trans rfl
   have hfs16 := blk_frozen BK166.out 6
   have hs17 : w9.cell? ⟨gb166, 7, none⟩ = some (.int .i64 0) := (blk_cell BK166.out 7).trans rfl
   have hfs17 := blk_frozen BK166.out 7
   have hs18 : w9.cell? ⟨gb166, 8, none⟩ = some (.slice none 0 0) := (blk_cell BK166.out 8).trans rfl
   have hfs18 := blk_frozen BK166.out 8
   refine skip_ (w1 := ?_) ?shw ?shN ?_ ?_
   case shw => exact rfl
   case shN => exact rfl
   rotate_left
   ·
    go_simp
    rfl
   refine hK.out _ _ ?_
   clear hK K
   refine pure_ (i := 12) (N := some 7) (v := ?_) (a' := ?_) q23_13 rfl rfl (any_of HT_.out (by kernel_rfl)) (fun _ _ _ h => h) (Or.inl ⟨by rfl, ?_⟩) ?_ ?_
   rotate_left
   ·
    intro w'
    go_simp
    with_reducible rfl
   rotate_left
   ·
    simp only [Act.put, List.setIfInBounds_toArray, List.set_cons_zero, List.set_cons_succ, i64_w, i32_w]
    rfl
   refine done_ (done_of HT_.out (by kernel_rfl)) ?_
   try go_wp2
   refine bodyPost_ret (results_ct rfl _ _ gb166 37 #[.int .i64 2, .int .i64 ((rd_T35 l2 0).f1.f3.f0), .int .i64 ((rd_T35 l2 0).f1.f3.f1), .int .i64 ((rd_T35 l2 0).f1.f3.f2), .int .i64 ((rd_T35 l2 0).f1.f3.f3), .int .i64 ((rd_T35 l2 0).f1.f3.f4), .string ((rd_T35 l2 0).f1.f3.f5), .int .i64 ((rd_T35 l2 0).f1.f4.f0), .slice A168_13 ((rd_T35 l2 0).f1.f4.f1).length c168_13] (0, 0) _ rfl (by (with_reducible repeat (first | refine blk_drewN ?_ _ | refine blk_drew ?_ | refine blk_alloc ?_ _)); refine blk_put9 (cs := #[.int .i64 0, .int .i64 0, .int .i64 0, .int .i64 0, .int .i64 0, .int .i64 0, .string (⟨#[]⟩ : ByteArray), .int .i64 0, .slice none 0 0]) ?_ rfl; (with_reducible repeat (first | refine blk_drewN ?_ _ | refine blk_drew ?_ | refine blk_alloc ?_ _)); exact BK166.out) Try.underlying37 rfl (by kernel_rfl)) rfl ?_
   exact ⟨_, by first | rfl | (simp [errW_none, errW_some] <;> rfl) | (simp [*, errW_none, errW_some] <;> rfl), by (with_reducible repeat (first | apply Kd.V_alloc | apply Kd.V_drewN | apply Kd.V_drew)); exact Kd.V_mono (Kd.V_far (p := ⟨gb166, 8, none⟩) (Kd.V_far (p := ⟨gb166, 7, none⟩) (Kd.V_far (p := ⟨gb166, 6, none⟩) (Kd.V_far (p := ⟨gb166, 5, none⟩) (Kd.V_far (p := ⟨gb166, 4, none⟩) (Kd.V_far (p := ⟨gb166, 3, none⟩) (Kd.V_far (p := ⟨gb166, 2, none⟩) (Kd.V_far (p := ⟨gb166, 1, none⟩) (Kd.V_far (p := ⟨gb166, 0, none⟩) (Kd.V_mono HL169_13.out (fun k_ hk => (⟨hk, hk.2⟩ : _ ∧ k_ ≠ gb166))) (fun _ hk => hk.2) (.int .i64 2)) (fun _ hk => hk.2) (.int .i64 ((rd_T35 l2 0).f1.f3.f0))) (fun _ hk => hk.2) (.int .i64 ((rd_T35 l2 0).f1.f3.f1))) (fun _ hk => hk.2) (.int .i64 ((rd_T35 l2 0).f1.f3.f2))) (fun _ hk => hk.2) (.int .i64 ((rd_T35 l2 0).f1.f3.f3))) (fun _ hk => hk.2) (.int .i64 ((rd_T35 l2 0).f1.f3.f4))) (fun _ hk => hk.2) (.string ((rd_T35 l2 0).f1.f3.f5))) (fun _ hk => hk.2) (.int .i64 ((rd_T35 l2 0).f1.f4.f0))) (fun _ hk => hk.2) (.slice A168_13 ((rd_T35 l2 0).f1.f4.f1).length c168_13)) (fun _ hk => hk.1.1), gw_ HB⟩
  ·
   rw [if_neg c6] at H
   exact absurd H (by simp)
 ·
  replace c5 := Bool.eq_false_iff.mpr c5
  subst c5
  have H1 : (some (0, 0, 0, 0, 0, 0, (⟨#[]⟩ : ByteArray), 0, ([] : List Int), false)) = some (r1, r2, r3, r4, r5, r6, r7, r8, r9, r10) := by rw [if_neg (show ¬ (false = true) by decide)] at H; exact H
  clear H
  have H := H1
  clear H1
  simp only [Option.some.injEq, Prod.mk.injEq] at H
  obtain ⟨rfl, rfl, rfl, rfl, rfl, rfl, rfl, rfl, rfl, rfl⟩ := H
  go_enter Try.func23, Try.ntmps23
  go_wp2_with (first | ((with_reducible refine gate_dst (N := 6) rfl ?_); refine box_event ?hg (N := 6) ?hd (cs := #[.int .i64 0, .int .i64 0, .int .i64 0, .int .i64 0, .int .i64 0, .int .i64 0, .string (⟨#[]⟩ : ByteArray), .int .i64 0, .slice none 0 0]) (t := 37) ?hr ?_; (case hd => rfl); (case hg => rfl); (case hr => first | (go_simp; done) | (go_simp; rfl)); intro gb166 hg w19 hbox hb; have n0_ := Aside0.mk (Kd.V_below (Kd.V_elderB (Kd.vk HO2) gb166 (Nat.le_of_eq hg.symm)) hb); have s_ := step_size_ (gw_ HB) hb hg; have n1_ := Aside0.mk s_.1; have n2_ := Aside0.mk (hbox); have n3_ := Aside0.mk s_.2; clear s_; have n4_ := n3_; clear HO2; clear HB; have HO2 := n0_; have HB := n1_; have BK166 := n2_; have GW166 := n3_; have GE166 := n4_; clear n0_ n1_ n2_ n3_ n4_; clear hb hbox hg) | ((with_reducible refine gate_callee (f := 32) rfl ?_); refine goesL_ (some 10) rfl rfl Try.func32 (by kernel_rfl) rfl #[.int .i64 a1, .slice A2 l2.length c2] rfl (by (try simp only [List.map_toArray, List.map_cons, List.map_nil]); first | done | rfl | (simp only [List.length_drop, List.length_take]; rfl)) ?_; (with_reducible refine (regain_same.calls a1 _ _ l2 false _ ?side1 ?side2 A4.out).mono ?_); (case side1 => repeat (first | exact (Kd.V_reads' HO2.out).2.2 | (with_reducible refine Kd.C_alloc ?_ _) | (with_reducible refine Kd.C_drewN ?_ _) | (with_reducible refine Kd.C_drew ?_))); (case side2 => exact (Kd.V_reads' HO2.out).2.1); rintro e w20 ⟨rfl, hb⟩; refine ⟨_, rfl, ?_⟩; have n0_ := Aside0.mk (Kd.V_below (Kd.vk HO2) hb); have n1_ := Aside0.mk (blk_below (g := gb166) (bk BK166) hb); have n2_ := Aside0.mk (below_step (gw_ HB) hb); clear HO2; clear BK166; clear HB; have HO2 := n0_; have BK166 := n1_; have HB := n2_; clear n0_ n1_ n2_; (try clear hb); (try clear hb2); (try clear hk); (try clear hi); obtain ⟨hcz21_0, hcz21_1, hcz21_2, hcz21_3, hcz21_4, hcz21_5, hcz21_6, hcz21_7, hcz21_8⟩ := blk_cells9 BK166.out; obtain ⟨hfz21_0, hfz21_1, hfz21_2, hfz21_3, hfz21_4, hfz21_5, hfz21_6, hfz21_7⟩ := blk_frozens8 BK166.out; have hfz21_8 := blk_frozen BK166.out 8))
  refine bodyPost_ret (results_ct rfl _ _ gb166 37 #[.int .i64 0, .int .i64 0, .int .i64 0, .int .i64 0, .int .i64 0, .int .i64 0, .string (⟨#[]⟩ : ByteArray), .int .i64 0, .slice none 0 0] (0, 0) _ rfl (by (with_reducible repeat (first | refine blk_drewN ?_ _ | refine blk_drew ?_ | refine blk_alloc ?_ _)); refine blk_put9 (cs := #[.int .i64 0, .int .i64 0, .int .i64 0, .int .i64 0, .int .i64 0, .int .i64 0, .string (⟨#[]⟩ : ByteArray), .int .i64 0, .slice none 0 0]) ?_ rfl; (with_reducible repeat (first | refine blk_drewN ?_ _ | refine blk_drew ?_ | refine blk_alloc ?_ _)); exact BK166.out) Try.underlying37 rfl (by kernel_rfl)) rfl ?_
  exact ⟨_, by first | rfl | (simp [errW_none, errW_some] <;> rfl) | (simp [*, errW_none, errW_some] <;> rfl), Kd.V_nil _ _ _ _ _, gw_ HB⟩

def regain_again.f (k : Nat) (a0 : Int) (a1 : Int) (l2 : List (S35)) : Option (Int × Int × Int × Int × Int × Int × ByteArray × Int × List Int × Bool) := (regain_best.f k l2 1).bind fun bt171 => (some (3, bt171.2.2.2.2.2.1, bt171.2.2.2.2.2.2.1, bt171.2.2.2.2.2.2.2.1, bt171.2.2.2.2.2.2.2.2.1, bt171.2.2.2.2.2.2.2.2.2.1, bt171.2.2.2.2.2.2.2.2.2.2.1, 0, ([] : List Int), bt171.2.2.2.2.2.2.2.2.2.2.2.2.2))
set_option maxHeartbeats 8000000 in
set_option maxRecDepth 100000 in
theorem regain_again.calls (k : Nat) (a0 : Int) (a1 : Int) (A2 : Option Addr) (c2 : Nat) (l2 : List (S35)) (r1 : Int) (r2 : Int) (r3 : Int) (r4 : Int) (r5 : Int) (r6 : Int) (r7 : ByteArray) (r8 : Int) (r9 : List Int) (r10 : Bool) (w : World) (hr2 : Kd.C k35 w A2 l2.length l2) (hc2 : l2.length ≤ c2) (h : regain_again.f k a0 a1 l2 = some (r1, r2, r3, r4, r5, r6, r7, r8, r9, r10)) :
  Calls Try.prog 24 #[.int .i64 a0, .int .i64 a1, .slice A2 l2.length c2] w fun e w' => ∃ v8_ : Value, e = .returned (.tuple #[.agg #[.int .i64 r1, .int .i64 r2, .int .i64 r3, .int .i64 r4, .int .i64 r5, .int .i64 r6, .string r7, .int .i64 r8, v8_], .bool r10]) ∧ Kd.R (Kd.int .i64) 3 w' w.heap.size (fun _ => True) v8_ r9 ∧ Below w.heap.size w w' := by
 have hu37 := Try.underlying37
 have hu33 := Try.underlying33
 have hu28 := Try.underlying28
 have HR2 := Aside0.mk hr2
 have HC2 := Aside0.mk hc2
 clear hr2 hc2
 have HB := Aside0.mk (Below.refl w.heap.size w)
 have H : ((regain_best.f k l2 1).bind fun bt171 => (some (3, bt171.2.2.2.2.2.1, bt171.2.2.2.2.2.2.1, bt171.2.2.2.2.2.2.2.1, bt171.2.2.2.2.2.2.2.2.1, bt171.2.2.2.2.2.2.2.2.2.1, bt171.2.2.2.2.2.2.2.2.2.2.1, 0, ([] : List Int), bt171.2.2.2.2.2.2.2.2.2.2.2.2.2))) = some (r1, r2, r3, r4, r5, r6, r7, r8, r9, r10) := h
 clear h
 replace H := Option.bind_eq_some_iff.mp H
 obtain ⟨⟨t171, t172, t173, t174, t175, t176, t177, t178, t179, t180, t181, t182, t183, t186⟩, A40, H⟩ := H
 replace H : (some (3, t176, t177, t178, t179, t180, t181, 0, ([] : List Int), t186)) = some (r1, r2, r3, r4, r5, r6, r7, r8, r9, r10) := H
 have A4 := Aside0.mk A40
 clear A40
 simp only [Option.some.injEq, Prod.mk.injEq] at H
 obtain ⟨rfl, rfl, rfl, rfl, rfl, rfl, rfl, rfl, rfl, rfl⟩ := H
 go_enter Try.func24, Try.ntmps24
 go_wp2_with (first | ((with_reducible refine gate_dst (N := 6) rfl ?_); refine box_event ?hg (N := 6) ?hd (cs := #[.int .i64 0, .int .i64 0, .int .i64 0, .int .i64 0, .int .i64 0, .int .i64 0, .string (⟨#[]⟩ : ByteArray), .int .i64 0, .slice none 0 0]) (t := 37) ?hr ?_; (case hd => rfl); (case hg => rfl); (case hr => first | (go_simp; done) | (go_simp; rfl)); intro gb170 hg w5 hbox hb; have s_ := step_size_ (gw_ HB) hb hg; have n0_ := Aside0.mk s_.1; have n1_ := Aside0.mk (hbox); have n2_ := Aside0.mk s_.2; clear s_; have n3_ := n2_; clear HB; have HB := n0_; have BK170 := n1_; have GW170 := n2_; have GE170 := n3_; clear n0_ n1_ n2_ n3_; clear hb hbox hg) | ((with_reducible refine gate_callee (f := 37) rfl ?_); refine goesL_ (some 12) rfl rfl Try.func37 (by kernel_rfl) rfl #[.slice A2 l2.length c2, .int .i64 1] rfl (by (try simp only [List.map_toArray, List.map_cons, List.map_nil]); first | done | rfl | (simp only [List.length_drop, List.length_take]; rfl)) ?_; (with_reducible refine (regain_best.calls k (fun k_ => k_ < w.heap.size) _ _ l2 1 t171 t172 t173 t174 t175 t176 t177 t178 t179 t180 t181 t182 t183 t186 _ ?side1 A4.out).mono ?_); (case side1 => exact Kd.V_mk HC2.out (Kd.F_below (Kd.C_F k35_heap HR2.out) (gw_ HB))); rintro e w6 ⟨v184, rfl, ho0, hb⟩; refine ⟨_, rfl, ?_⟩; have n0_ := Aside0.mk (Kd.V_lower (Kd.V_mono (ok' := fun k_ => k_ ≠ gb170) ho0 (fun k_ hk_ => Or.elim hk_ (fun hs_ => fun e_ => Nat.not_le.2 hs_ (by rw [e_]; exact GW170.out)) (fun hn_ => (Kd.freshB (g := gb170) (bk BK170) k_ hn_)))) (below_size (gw_ HB))); have n1_ := Aside0.mk (blk_below (g := gb170) (bk BK170) hb); have n2_ := Aside0.mk (below_step (gw_ HB) hb); clear BK170; clear HB; have HO185 := n0_; have BK170 := n1_; have HB := n2_; clear n0_ n1_ n2_; (try clear hb); (try clear hb2); (try clear hk); (try clear hi); (try clear ho0)) | ((with_reducible refine gate_dst (N := 8) rfl ?_); refine box_event ?hg (N := 8) ?hd (cs := #[.int .i64 0, .int .i64 0, .int .i64 0, .int .i64 0, .int .i64 0, .int .i64 0, .int .i64 0, .int .i64 0, .int .i64 0, .int .i64 0, .string (⟨#[]⟩ : ByteArray), .int .i64 0, .slice none 0 0]) (t := 33) ?hr ?_; (case hd => rfl); (case hg => rfl); (case hr => first | (go_simp; done) | (go_simp; rfl)); intro gb187 hg w7 hbox hb; have n0_ := Aside0.mk (Kd.V_below (Kd.V_elderB (Kd.vk HO185) gb187 (Nat.le_of_eq hg.symm)) hb); have n1_ := Aside0.mk (blk_below (g := gb170) (bk BK170) hb); have s_ := step_size_ (gw_ HB) hb hg; have n2_ := Aside0.mk s_.1; have n3_ := Aside0.mk (hbox); have n4_ := Aside0.mk s_.2; clear s_; have n5_ := n4_; have l_ := blk_lt_ (g := gb170) hg (bk BK170); have n6_ := Aside0.mk (Nat.ne_of_lt l_); have n7_ := Aside0.mk (Nat.ne_of_gt l_); clear l_; clear HO185; clear BK170; clear HB; have HO185 := n0_; have BK170 := n1_; have HB := n2_; have BK187 := n3_; have GW187 := n4_; have GE187 := n5_; have NB170_187 := n6_; have NB187_170 := n7_; clear n0_ n1_ n2_ n3_ n4_ n5_ n6_ n7_; clear hb hbox hg; have hnb8 := NB187_170.out; have hnc8 := NB170_187.out; obtain ⟨hcz9_0, hcz9_1, hcz9_2, hcz9_3, hcz9_4, hcz9_5, hcz9_6, hcz9_7, hcz9_8, hcz9_9, hcz9_10, hcz9_11, hcz9_12⟩ := blk_cells13 BK187.out; obtain ⟨hfz9_0, hfz9_1, hfz9_2, hfz9_3, hfz9_4, hfz9_5, hfz9_6, hfz9_7, hfz9_8, hfz9_9, hfz9_10, hfz9_11, hfz9_12⟩ := blk_frozens13 BK187.out; obtain ⟨Ao10, co10, eo10⟩ := Kd.V_slice HO185.out; subst eo10; obtain ⟨hcz11_0, hcz11_1, hcz11_2, hcz11_3, hcz11_4, hcz11_5, hcz11_6, hcz11_7, hcz11_8⟩ := blk_cells9 BK170.out; obtain ⟨hfz11_0, hfz11_1, hfz11_2, hfz11_3, hfz11_4, hfz11_5, hfz11_6, hfz11_7⟩ := blk_frozens8 BK170.out; have hfz11_8 := blk_frozen BK170.out 8))
 refine bodyPost_ret (results_ct rfl _ _ gb170 37 #[.int .i64 3, .int .i64 t176, .int .i64 t177, .int .i64 t178, .int .i64 t179, .int .i64 t180, .string t181, .int .i64 0, .slice none 0 0] (0, 0) _ rfl (by (with_reducible repeat (first | refine blk_drewN ?_ _ | refine blk_drew ?_ | refine blk_alloc ?_ _)); refine blk_put9 (cs := #[.int .i64 0, .int .i64 0, .int .i64 0, .int .i64 0, .int .i64 0, .int .i64 0, .string (⟨#[]⟩ : ByteArray), .int .i64 0, .slice none 0 0]) ?_ rfl; (with_reducible repeat (first | refine blk_drewN ?_ _ | refine blk_drew ?_ | refine blk_alloc ?_ _)); (iterate 13 (refine blk_far ?_ NB170_187.out _)); (with_reducible repeat (first | refine blk_drewN ?_ _ | refine blk_drew ?_ | refine blk_alloc ?_ _)); exact BK170.out) Try.underlying37 rfl (by kernel_rfl)) rfl ?_
 exact ⟨_, by first | rfl | (simp [errW_none, errW_some] <;> rfl) | (simp [*, errW_none, errW_some] <;> rfl), by first | exact Kd.R_nil _ _ _ _ _ | exact Kd.N_nil _ _ _ _ _ | exact Kd.V_nil _ _ _ _ _ | exact Kd.Q_nil _ _ _ _ _ | exact Kd.S_nil _ _ _ _ _, gw_ HB⟩

-- making: yes
def slices_Clone_int_int.f (l : List Int) : Option (List Int) := if l.length ≤ 17592186044416 then some l else none
set_option maxHeartbeats 8000000 in
set_option maxRecDepth 100000 in
theorem slices_Clone_int_int.calls (A0 : Option Addr) (c0 : Nat) (l0 : List Int) (r : List Int) (w : World) (hr0 : Kd.C (Kd.int .i64) w A0 l0.length l0) (hc0 : l0.length ≤ c0) (h : slices_Clone_int_int.f l0 = some r) :
    Calls Try.prog 25 #[.slice A0 l0.length c0] w fun e w' => ∃ v0_ : Value, e = .returned (v0_) ∧ Kd.R (Kd.int .i64) 3 w' w.heap.size (fun _ => True) v0_ r ∧ Below w.heap.size w w' := by
  have huS := Try.underlying29
  have hI := Try.underlying3
  unfold slices_Clone_int_int.f at h
  by_cases hl : l0.length ≤ 17592186044416
  · rw [if_pos hl] at h
    obtain rfl := Option.some.inj h
    clear h
    have HR := Aside0.mk hr0
    clear hr0
    cases A0 with
    | none =>
      have hq := Go.Lib.run_eql_slice_nil (P := Try.prog) w 29 3 none l0.length c0 0 0 huS
      have h0 : l0 = [] := by
        rcases Nat.eq_zero_or_pos l0.length with h | h
        · exact List.length_eq_zero_iff.1 h
        · obtain ⟨ad, e, _⟩ := HR.out.2.2 h; cases e
      subst h0
      simp only [List.length_nil] at hq ⊢
      go_enter Try.func25, Try.ntmps25
      go_wp2_with fail
      go_ret
      exact ⟨_, rfl, Kd.R_nil _ _ _ _ _, Below.refl _ _⟩
    | some ad =>
      have hq := Go.Lib.run_eql_slice_nil (P := Try.prog) w 29 3 (some ad) l0.length c0 0 0 huS
      have HO : Aside0 ((Kd.int .i64).R 3 (w.alloc (.cells #[] 3)) w.heap.size (fun _ => True) (.slice (some ⟨w.heap.size, 0, none⟩) 0 0) ([] : List Int)) := ⟨Kd.R_of_own ⟨rfl, .inr ⟨w.heap.size, 0, #[], rfl, Nat.le_refl _, heap_alloc_new w _, Nat.le_refl _, by decide, rfl, by simp; rfl⟩⟩ (fun _ _ => trivial)⟩
      go_enter Try.func25, Try.ntmps25
      go_wp2_with (first | ((with_reducible refine gate_dst (N := 7) rfl ?_); refine Kd.R_append_rows (Kd.int .i64) (w0 := w) w.heap.size (by rfl) (.tmp 5) (.tmp 6) 29 3 (.int .i64 0) 8 rfl Try.underlying29 info3 rfl (by decide) (by omega) (.slice (some ⟨w.heap.size, 0, none⟩) 0 0) ([] : List Int) l0 _ _ _ (fun _ => True) (fun _ => False) rfl rfl HO.out ?aR (fun _ _ h => h) (fun _ h => h.elim) (fun _ _ => trivial) (below_alloc (Below.refl _ _) _) (below_size (below_alloc (Below.refl _ _) _)) ?aL ?_; (case aR => exact Kd.C_alloc HR.out _); (case aL => simp only [List.length_nil]; omega); intro v1 w1 ho hb hg hat; (have HO1 := Aside0.mk ho); (have HB1 := Aside0.mk hb); clear ho hb hg hat))
      go_ret
      exact ⟨_, rfl, HO1.out, HB1.out⟩
  · rw [if_neg hl] at h; cases h

-- making: yes
abbrev T10 := Int × Int × Int × Int × Int × Int × ByteArray × Int × List Int × Bool
abbrev CT := Int × Int × Int × Int × Int × Int × ByteArray × Int × List Int
def t9 (t : T10) : CT := (t.1, t.2.1, t.2.2.1, t.2.2.2.1, t.2.2.2.2.1, t.2.2.2.2.2.1, t.2.2.2.2.2.2.1, t.2.2.2.2.2.2.2.1, t.2.2.2.2.2.2.2.2.1)
def tb (t : T10) : Bool := t.2.2.2.2.2.2.2.2.2
def zero10 : T10 := (0, 0, 0, 0, 0, 0, ⟨#[]⟩, 0, [], false)
def take10 (m : S33) (k : Int) : T10 := (k, m.f3.f0, m.f3.f1, m.f3.f2, m.f3.f3, m.f3.f4, m.f3.f5, m.f4.f0, m.f4.f1, true)
def cmpI (a b : Int) : Int := if a < b then -1 else if a > b then 1 else 0
def cmpB (a0 a1 b0 b1 : Int) : Int := if cmpI a0 b0 = 0 then cmpI a1 b1 else cmpI a0 b0
theorem compare_eq (a b : Int) : cmp_Compare_int.f a b = some (cmpI a b) := by
  unfold cmp_Compare_int.f cmp_isNaN_int.f cmpI
  simp only [bne_self_eq_false, Option.bind_some]
  simp
  split
  · rfl
  · split <;> rfl
theorem or_eq (a b : Int) (k : Nat) : cmp_Or_int.f (k + 3) [a, b] = some (if a = 0 then b else a) := by
  unfold cmp_Or_int.f
  by_cases h : a = 0
  · by_cases h2 : b = 0
    · subst h h2; simp [cmp_Or_int.l0, rd, wrap64]
    · subst h; simp [cmp_Or_int.l0, rd, wrap64, h2]
  · simp [cmp_Or_int.l0, rd, h]
theorem cmp_eq (a0 a1 b0 b1 : Int) (k : Nat) : ballot_Cmp.f (k + 3) a0 a1 b0 b1 = some (cmpB a0 a1 b0 b1) := by
  unfold ballot_Cmp.f
  simp only [compare_eq, Option.bind_some, or_eq]
  rfl
/-- one more report, of a state, by votes -/
def stepB (st : Int) (a : Bool × S33) (x : S35) : Bool × S33 := if x.f1.f0 = st then (if a.1 = true then (if cmpB x.f1.f2.f0 x.f1.f2.f1 a.2.f2.f0 a.2.f2.f1 > 0 then (true, x.f1) else a) else (true, x.f1)) else a
def bestP (l : List S35) (st : Int) : Bool × S33 := l.foldl (stepB st) (false, z33)
def out14 (p : Bool × S33) : Int × Int × Int × Int × Int × Int × Int × Int × Int × Int × ByteArray × Int × List Int × Bool := (p.2.f0, p.2.f1.f0, p.2.f1.f1, p.2.f2.f0, p.2.f2.f1, p.2.f3.f0, p.2.f3.f1, p.2.f3.f2, p.2.f3.f3, p.2.f3.f4, p.2.f3.f5, p.2.f4.f0, p.2.f4.f1, p.1)
theorem bestL (st : Int) (l : List S35) (hl : l.length ≤ 9223372036854775807) : ∀ (d i k : Nat) (b : Bool) (m : S33), l.length - i ≤ d → i ≤ l.length → d + 4 ≤ k →
    regain_best.l0 k st b l (l.length : Int) (i : Int) m.f0 m.f1.f0 m.f1.f1 m.f2.f0 m.f2.f1 m.f3.f0 m.f3.f1 m.f3.f2 m.f3.f3 m.f3.f4 m.f3.f5 m.f4.f0 m.f4.f1 = some (out14 ((l.drop i).foldl (stepB st) (b, m))) := by
  intro d
  induction d with
  | zero =>
    intro i k b m hd hi hk
    obtain ⟨k, rfl⟩ : ∃ q, k = q + 1 := ⟨k - 1, by omega⟩
    have : i = l.length := by omega
    subst this
    simp only [regain_best.l0]
    rw [if_neg (by omega), List.drop_length]
    rfl
  | succ d ih =>
    intro i k b m hd hi hk
    obtain ⟨k, rfl⟩ : ∃ q, k = q + 1 := ⟨k - 1, by omega⟩
    by_cases hlt : i < l.length
    · have hw : wrap64 ((i : Int) + 1) = ((i + 1 : Nat) : Int) := by unfold wrap64; omega
      have hdrop : l.drop i = rd_T35 l (i : Int) :: l.drop (i + 1) := by rw [rdTR_at l i hlt]; exact List.drop_eq_getElem_cons hlt
      rw [hdrop, List.foldl_cons]
      simp only [regain_best.l0]
      rw [if_pos (by omega), if_pos (by omega), if_pos (by omega), hw]
      unfold stepB
      by_cases h1 : (rd_T35 l (i : Int)).f1.f0 = st
      · rw [if_pos h1, if_pos h1]
        by_cases h2 : b = true
        · have hc : ballot_Cmp.f k (rd_T35 l (i : Int)).f1.f2.f0 (rd_T35 l (i : Int)).f1.f2.f1 m.f2.f0 m.f2.f1 = some (cmpB (rd_T35 l (i : Int)).f1.f2.f0 (rd_T35 l (i : Int)).f1.f2.f1 m.f2.f0 m.f2.f1) := by
            obtain ⟨q, rfl⟩ : ∃ q, k = q + 3 := ⟨k - 3, by omega⟩
            exact cmp_eq _ _ _ _ _
          rw [if_pos h2, if_pos h2, hc]
          simp only [Option.bind_some]
          by_cases h3 : cmpB (rd_T35 l (i : Int)).f1.f2.f0 (rd_T35 l (i : Int)).f1.f2.f1 m.f2.f0 m.f2.f1 > 0
          · rw [if_pos h3, if_pos h3]
            exact ih (i + 1) k true _ (by omega) (by omega) (by omega)
          · rw [if_neg h3, if_neg h3]
            exact ih (i + 1) k b m (by omega) (by omega) (by omega)
        · rw [if_neg h2, if_neg h2]
          exact ih (i + 1) k true _ (by omega) (by omega) (by omega)
      · rw [if_neg h1, if_neg h1]
        exact ih (i + 1) k b m (by omega) (by omega) (by omega)
    · have : i = l.length := by omega
      subst this
      simp only [regain_best.l0]
      rw [if_neg (by omega), List.drop_length]
      rfl
theorem best_eq (l : List S35) (st : Int) (hl : l.length ≤ 9223372036854775807) (k : Nat) (hk : l.length + 4 ≤ k) : regain_best.f k l st = some (out14 (bestP l st)) := by
  have := bestL st l hl l.length 0 k false z33 (by omega) (by omega) hk
  rw [List.drop_zero] at this
  exact this
/-- how many are enough -/
def quorumP (n : Int) : Int := (mn (mx n 1) 7) / 2 + 1
theorem quorum_eq (n : Int) : regain_Quorum.f n = some (quorumP n) := by
  unfold regain_Quorum.f regain_bound.f quorumP
  simp only [Option.bind_some]
  congr 1
  have h : 1 ≤ mn (mx n 1) 7 ∧ mn (mx n 1) 7 ≤ 7 := by unfold mn mx; omega
  generalize mn (mx n 1) 7 = q at h
  rw [Int.tdiv_eq_ediv_of_nonneg (by omega)]
  unfold wrap64
  omega
def try0 (c : List S35) : T10 := match c.findIdx? (fun x => x.f1.f0 == 3) with | some i => take10 (rd_T35 c (i : Int)).f1 1 | none => zero10
def try1 (n : Int) (c : List S35) : T10 := (0, 0, 0, 0, 0, 0, ⟨#[]⟩, 0, [], decide ((c.length : Int) < quorumP n))
def try2 (c : List S35) : T10 := if (bestP c 2).1 = true then (if (bestP c 1).1 = true then (if cmpB (bestP c 1).2.f2.f0 (bestP c 1).2.f2.f1 (bestP c 2).2.f2.f0 (bestP c 2).2.f2.f1 > 0 then zero10 else take10 (bestP c 2).2 2) else take10 (bestP c 2).2 2) else zero10
def sameAll (o : Int) (c : List S35) : Bool := !(c.any fun x => oddR o x (rd_T35 c 0))
def try3 (o : Int) (c : List S35) : T10 := if sameAll o c = true then take10 (rd_T35 c 0).f1 2 else zero10
def try4 (c : List S35) : T10 := (3, (bestP c 1).2.f3.f0, (bestP c 1).2.f3.f1, (bestP c 1).2.f3.f2, (bestP c 1).2.f3.f3, (bestP c 1).2.f3.f4, (bestP c 1).2.f3.f5, 0, [], (bestP c 1).1)
theorem try0_eq (n o : Int) (c : List S35) : regain_done.f n o c = some (try0 c) := by
  unfold regain_done.f api_Report_35.f idxOfR try0
  simp only [Option.bind_some]
  cases h : c.findIdx? (fun x => x.f1.f0 == 3) with
  | none => rfl
  | some i =>
    rw [List.findIdx?_eq_some_iff_getElem] at h
    have hi := h.1
    dsimp only
    rw [if_neg (by omega), if_pos (by omega), if_pos (by omega)]
    rfl
theorem try1_eq (n o : Int) (c : List S35) : regain_wait.f n o c = some (try1 n c) := by
  unfold regain_wait.f
  rw [quorum_eq]
  rfl
theorem try2_eq (n o : Int) (c : List S35) (hl : c.length ≤ 9223372036854775807) (k : Nat) (hk : c.length + 4 ≤ k) : regain_accepted.f k n o c = some (try2 c) := by
  unfold regain_accepted.f try2
  rw [best_eq c 2 hl k hk, best_eq c 1 hl k hk]
  obtain ⟨k, rfl⟩ : ∃ q, k = q + 3 := ⟨k - 3, by omega⟩
  simp only [Option.bind_some, out14, cmp_eq]
  by_cases h1 : (bestP c 2).1 = true
  · rw [if_pos h1, if_pos h1]
    by_cases h2 : (bestP c 1).1 = true
    · rw [if_pos h2, if_pos h2]
      by_cases h3 : cmpB (bestP c 1).2.f2.f0 (bestP c 1).2.f2.f1 (bestP c 2).2.f2.f0 (bestP c 2).2.f2.f1 > 0
      · rw [if_pos h3, if_pos h3]; rfl
      · rw [if_neg h3, if_neg h3]; rfl
    · rw [if_neg h2, if_neg h2]; rfl
  · rw [if_neg h1, if_neg h1]; rfl
theorem try3_eq (n o : Int) (c : List S35) (h0 : 0 < c.length) : regain_all.f n o c = some (try3 o c) := by
  unfold regain_all.f regain_same.f try3 sameAll
  simp only [Option.bind_some]
  by_cases h : (!(c.any fun x => oddR o x (rd_T35 c 0))) = true
  · rw [if_pos h, if_pos h, if_pos (by omega)]; rfl
  · rw [if_neg h, if_neg h]; rfl
theorem try4_eq (n o : Int) (c : List S35) (hl : c.length ≤ 9223372036854775807) (k : Nat) (hk : c.length + 4 ≤ k) : regain_again.f k n o c = some (try4 c) := by
  unfold regain_again.f
  rw [best_eq c 1 hl k hk]
  rfl
/-- the tries in their order -/
def tryP (i : Nat) (n o : Int) (c : List S35) : T10 := match i with | 0 => try0 c | 1 => try1 n c | 2 => try2 c | 3 => try3 o c | _ => try4 c
/-- what is chosen, from a try on -/
def fromP (n o : Int) (c : List S35) : Nat → Nat → CT
  | 0, _ => (4, 0, 0, 0, 0, 0, ⟨#[]⟩, 0, [])
  | d + 1, i => if tb (tryP i n o c) = true then t9 (tryP i n o c) else fromP n o c d (i + 1)
def chooseP (n o : Int) (c : List S35) : CT := fromP n o c 5 0
def countP (n : Int) (l : List S35) : List S35 := (uptoR l (mn (mx n 1) 7).toNat).map fun i : Nat => rd_T35 l (i : Int)
/-- a list of deps that can be copied -/
def shortR (x : S35) : Prop := x.f1.f4.f1.length ≤ 17592186044416
theorem short_rd {c : List S35} (h : ∀ x ∈ c, shortR x) (i : Int) : shortR (rd_T35 c i) := by
  unfold rd_T35
  rw [List.getD_eq_getElem?_getD]
  cases h2 : c[i.toNat]? with
  | none => simp [shortR, z35, z33, z31]
  | some x => exact h x (List.mem_of_getElem? h2)
theorem short_best {st : Int} : ∀ (c : List S35), (∀ x ∈ c, shortR x) → ∀ a : Bool × S33, a.2.f4.f1.length ≤ 17592186044416 → (c.foldl (stepB st) a).2.f4.f1.length ≤ 17592186044416 := by
  intro c
  induction c with
  | nil => intro _ a ha; exact ha
  | cons x c ih =>
    intro h a ha
    rw [List.foldl_cons]
    refine ih (fun y hy => h y (List.mem_cons_of_mem _ hy)) _ ?_
    have hx : x.f1.f4.f1.length ≤ 17592186044416 := h x (List.mem_cons_self)
    unfold stepB
    split
    · split
      · split
        · exact hx
        · exact ha
      · exact hx
    · exact ha
theorem short_try {n o : Int} {c : List S35} (h : ∀ x ∈ c, shortR x) (i : Nat) : (t9 (tryP i n o c)).2.2.2.2.2.2.2.2.length ≤ 17592186044416 := by
  have hb : ∀ st, (bestP c st).2.f4.f1.length ≤ 17592186044416 := fun st => short_best c h _ (by simp [z33, z31])
  have hz : (t9 zero10).2.2.2.2.2.2.2.2.length ≤ 17592186044416 := by simp [t9, zero10]
  match i with
  | 0 =>
    show (t9 (try0 c)).2.2.2.2.2.2.2.2.length ≤ _
    unfold try0
    split
    · exact short_rd h _
    · exact hz
  | 1 => show ([] : List Int).length ≤ _; simp
  | 2 =>
    show (t9 (try2 c)).2.2.2.2.2.2.2.2.length ≤ _
    unfold try2
    split
    · split
      · split
        · exact hz
        · exact hb 2
      · exact hb 2
    · exact hz
  | 3 =>
    show (t9 (try3 o c)).2.2.2.2.2.2.2.2.length ≤ _
    unfold try3
    split
    · exact short_rd h _
    · exact hz
  | _ + 4 => show ([] : List Int).length ≤ _; simp
theorem short_count {n : Int} {l : List S35} (h : ∀ x ∈ l, shortR x) : ∀ x ∈ countP n l, shortR x := by
  intro x hx
  obtain ⟨i, _, rfl⟩ := List.mem_map.1 hx
  exact short_rd h _
def regain_Decide.f (n o : Int) (l : List S35) : Option CT := if (l.all fun x => decide (x.f1.f4.f1.length ≤ 17592186044416)) = true then some (chooseP n o (countP n l)) else none
def tryFn (i : Nat) : Nat := match i with | 0 => 20 | 1 => 21 | 2 => 22 | 3 => 23 | _ => 24
theorem eg_try (i : Nat) : ∀ args w, (callFunc (tryFn i) args).run Try.prog w = .ok (.enter (tryFn i) args) w := by
  match i with
  | 0 => exact enters_ Try.func20 (by kernel_rfl) rfl
  | 1 => exact enters_ Try.func21 (by kernel_rfl) rfl
  | 2 => exact enters_ Try.func22 (by kernel_rfl) rfl
  | 3 => exact enters_ Try.func23 (by kernel_rfl) rfl
  | _ + 4 => exact enters_ Try.func24 (by kernel_rfl) rfl
/-- a choice's cells -/
def cellsC (t : CT) (A : Option Addr) (c : Nat) : Array Value := #[.int .i64 t.1, .int .i64 t.2.1, .int .i64 t.2.2.1, .int .i64 t.2.2.2.1, .int .i64 t.2.2.2.2.1, .int .i64 t.2.2.2.2.2.1, .string t.2.2.2.2.2.2.1, .int .i64 t.2.2.2.2.2.2.2.1, .slice A t.2.2.2.2.2.2.2.2.length c]
theorem try_calls (i : Nat) (n o : Int) (A : Option Addr) (c : Nat) (cl : List S35) (W : World) (P : Nat → Prop) (hV : Kd.V k35 35 W W.heap.size (fun k => P k) (.slice A cl.length c) cl) (h0 : i = 3 → 0 < cl.length) :
    Calls Try.prog (tryFn i) #[.int .i64 n, .int .i64 o, .slice A cl.length c] W fun e W' => ∃ A' c', e = .returned (.tuple #[.agg (cellsC (t9 (tryP i n o cl)) A' c'), .bool (tb (tryP i n o cl))]) ∧ (t9 (tryP i n o cl)).2.2.2.2.2.2.2.2.length ≤ c' ∧ (Kd.int .i64).C W' A' (t9 (tryP i n o cl)).2.2.2.2.2.2.2.2.length (t9 (tryP i n o cl)).2.2.2.2.2.2.2.2 ∧ Below W.heap.size W W' := by
  have hl : cl.length ≤ 9223372036854775807 := Kd.F_max (Kd.V_F hV)
  have hr := Kd.V_reads' hV
  have fin : ∀ (t : T10) (ok : Nat → Prop) (e : Ending) (W' : World), (∃ v : Value, e = .returned (.tuple #[.agg #[.int .i64 t.1, .int .i64 t.2.1, .int .i64 t.2.2.1, .int .i64 t.2.2.2.1, .int .i64 t.2.2.2.2.1, .int .i64 t.2.2.2.2.2.1, .string t.2.2.2.2.2.2.1, .int .i64 t.2.2.2.2.2.2.2.1, v], .bool t.2.2.2.2.2.2.2.2.2]) ∧ Kd.V (Kd.int .i64) 3 W' W.heap.size ok v t.2.2.2.2.2.2.2.2.1 ∧ Below W.heap.size W W') →
      ∃ A' c', e = .returned (.tuple #[.agg (cellsC (t9 t) A' c'), .bool (tb t)]) ∧ (t9 t).2.2.2.2.2.2.2.2.length ≤ c' ∧ (Kd.int .i64).C W' A' (t9 t).2.2.2.2.2.2.2.2.length (t9 t).2.2.2.2.2.2.2.2 ∧ Below W.heap.size W W' := by
    rintro t ok e W' ⟨v, rfl, ⟨A', c', rfl, h1, h2⟩, hb⟩
    exact ⟨A', c', rfl, h1, Kd.F_now h2, hb⟩
  match i with
  | 0 => exact (regain_done.calls n o P A c cl _ _ _ _ _ _ _ _ _ _ W hV (try0_eq n o cl)).mono (fin (try0 cl) _)
  | 1 => exact (regain_wait.calls n o A c cl _ _ _ _ _ _ _ _ _ _ W hr.2.2 hr.2.1 (try1_eq n o cl)).mono fun e W' ⟨v, h1, h2, h3⟩ => fin (try1 n cl) _ e W' ⟨v, h1, Kd.R_V h2, h3⟩
  | 2 => exact (regain_accepted.calls (cl.length + 4) n o P A c cl _ _ _ _ _ _ _ _ _ _ W hV (try2_eq n o cl hl _ (Nat.le_refl _))).mono (fin (try2 cl) _)
  | 3 => exact (regain_all.calls n o P A c cl _ _ _ _ _ _ _ _ _ _ W hV (try3_eq n o cl (h0 rfl))).mono (fin (try3 o cl) _)
  | _ + 4 => exact (regain_again.calls (cl.length + 4) n o A c cl _ _ _ _ _ _ _ _ _ _ W hr.2.2 hr.2.1 (try4_eq n o cl hl _ (Nat.le_refl _))).mono fun e W' ⟨v, h1, h2, h3⟩ => fin (try4 cl) _ e W' ⟨v, h1, Kd.R_V h2, h3⟩
theorem fns_idx0 (w : World) : (Instr.index 50 (.agg #[.func (.func 20) #[] #[], .func (.func 21) #[] #[], .func (.func 22) #[] #[], .func (.func 23) #[] #[], .func (.func 24) #[] #[]]) (.int .i64 0)).run Try.prog w = .ok (.func (.func 20) #[] #[]) w := by kernel_rfl
theorem fns_idx1 (w : World) : (Instr.index 50 (.agg #[.func (.func 20) #[] #[], .func (.func 21) #[] #[], .func (.func 22) #[] #[], .func (.func 23) #[] #[], .func (.func 24) #[] #[]]) (.int .i64 1)).run Try.prog w = .ok (.func (.func 21) #[] #[]) w := by kernel_rfl
theorem fns_idx2 (w : World) : (Instr.index 50 (.agg #[.func (.func 20) #[] #[], .func (.func 21) #[] #[], .func (.func 22) #[] #[], .func (.func 23) #[] #[], .func (.func 24) #[] #[]]) (.int .i64 2)).run Try.prog w = .ok (.func (.func 22) #[] #[]) w := by kernel_rfl
theorem fns_idx3 (w : World) : (Instr.index 50 (.agg #[.func (.func 20) #[] #[], .func (.func 21) #[] #[], .func (.func 22) #[] #[], .func (.func 23) #[] #[], .func (.func 24) #[] #[]]) (.int .i64 3)).run Try.prog w = .ok (.func (.func 23) #[] #[]) w := by kernel_rfl
theorem fns_idx4 (w : World) : (Instr.index 50 (.agg #[.func (.func 20) #[] #[], .func (.func 21) #[] #[], .func (.func 22) #[] #[], .func (.func 23) #[] #[], .func (.func 24) #[] #[]]) (.int .i64 4)).run Try.prog w = .ok (.func (.func 24) #[] #[]) w := by kernel_rfl
theorem fns_idx (i : Nat) (hi : i < 5) (w : World) : (Instr.index 50 (.agg #[.func (.func 20) #[] #[], .func (.func 21) #[] #[], .func (.func 22) #[] #[], .func (.func 23) #[] #[], .func (.func 24) #[] #[]]) (.int .i64 (i : Int))).run Try.prog w = .ok (.func (.func (tryFn i)) #[] #[]) w := by
  have h : i = 0 ∨ i = 1 ∨ i = 2 ∨ i = 3 ∨ i = 4 := by omega
  rcases h with rfl | rfl | rfl | rfl | rfl
  · exact fns_idx0 w
  · exact fns_idx1 w
  · exact fns_idx2 w
  · exact fns_idx3 w
  · exact fns_idx4 w
theorem fromP_yes {n o : Int} {c : List S35} {i : Nat} (hi : i < 5) (h : tb (tryP i n o c) = true) : fromP n o c (5 - i) i = t9 (tryP i n o c) := by
  obtain ⟨d, hd⟩ : ∃ d, 5 - i = d + 1 := ⟨4 - i, by omega⟩
  rw [hd]
  unfold fromP
  rw [if_pos h]
theorem fromP_no {n o : Int} {c : List S35} {i : Nat} (hi : i < 5) (h : tb (tryP i n o c) = false) : fromP n o c (5 - (i + 1)) (i + 1) = fromP n o c (5 - i) i := by
  obtain ⟨d, hd⟩ : ∃ d, 5 - i = d + 1 := ⟨4 - i, by omega⟩
  rw [hd, show 5 - (i + 1) = d by omega]
  conv => rhs; unfold fromP
  rw [if_neg (by rw [h]; decide)]
theorem quorumP_pos (n : Int) : 1 ≤ quorumP n := by
  unfold quorumP
  have : 1 ≤ mn (mx n 1) 7 := by unfold mn mx; omega
  omega
set_option maxHeartbeats 8000000 in
set_option maxRecDepth 100000 in
theorem regain_Decide.calls (a0 : Int) (a1 : Int) (A2 : Option Addr) (c2 : Nat) (l2 : List (S35)) (r1 : Int) (r2 : Int) (r3 : Int) (r4 : Int) (r5 : Int) (r6 : Int) (r7 : ByteArray) (r8 : Int) (r9 : List Int) (w : World) (hr2 : Kd.C k35 w A2 l2.length l2) (hc2 : l2.length ≤ c2) (h : regain_Decide.f a0 a1 l2 = some (r1, r2, r3, r4, r5, r6, r7, r8, r9)) :
    Calls Try.prog 10 #[.int .i64 a0, .int .i64 a1, .slice A2 l2.length c2] w fun e w' => ∃ v8_ : Value, e = .returned (.agg #[.int .i64 r1, .int .i64 r2, .int .i64 r3, .int .i64 r4, .int .i64 r5, .int .i64 r6, .string r7, .int .i64 r8, v8_]) ∧ Kd.R (Kd.int .i64) 3 w' w.heap.size (fun _ => True) v8_ r9 ∧ Below w.heap.size w w' := by
  have huS := Try.underlying22
  have hI := Try.underlying3
  have huC := Try.underlying37
  have huA := Try.underlying31
  have huR := Try.underlying50
  unfold regain_Decide.f at h
  by_cases hs : (l2.all fun x => decide (x.f1.f4.f1.length ≤ 17592186044416)) = true
  · rw [if_pos hs] at h
    have hsh : ∀ x ∈ l2, shortR x := fun x hx => of_decide_eq_true (p := x.f1.f4.f1.length ≤ 17592186044416) (List.all_eq_true.1 hs x hx)
    have HT := Aside0.mk (Option.some.inj h)
    have HSH := Aside0.mk (fun i => short_try (n := a0) (o := a1) (short_count (n := a0) hsh) i)
    clear h hs hsh
    obtain ⟨cl, hcl⟩ : ∃ cl, countP a0 l2 = cl := ⟨_, rfl⟩
    have HC := Aside0.mk (show regain_collected.f a0 l2 = some cl from by rw [← hcl]; rfl)
    rw [hcl] at HSH
    unfold chooseP at HT
    rw [hcl] at HT
    clear hcl
    have HV := Aside0.mk (Kd.V_mk (e := 35) (base := w.heap.size) hc2 (Kd.C_F k35_heap hr2))
    clear hr2
    go_enter Try.func10, Try.ntmps10
    go_wp2_with fail
    refine (regain_collected.calls a0 _ A2 c2 l2 cl _ (Kd.V_alloc HV.out _) HC.out).mono ?_
    rintro e w2 ⟨v0, rfl, hN, hb2⟩
    obtain ⟨A0, c0, rfl⟩ := Kd.N_slice hN
    have HB := Aside0.mk (below_step (below_alloc (Below.refl w.heap.size w) (.cells #[.int .i64 0, .int .i64 0, .int .i64 0, .int .i64 0, .int .i64 0, .int .i64 0, .string (⟨#[]⟩ : ByteArray), .int .i64 0, .slice none 0 0] 37)) hb2)
    have HR := Aside0.mk (blk_below (heap_alloc_new w (.cells #[.int .i64 0, .int .i64 0, .int .i64 0, .int .i64 0, .int .i64 0, .int .i64 0, .string (⟨#[]⟩ : ByteArray), .int .i64 0, .slice none 0 0] 37)) hb2)
    have HN := Aside0.mk (Kd.N_V (base' := 0) hN)
    clear hN hb2
    have hx0 := fns_idx0
    have hlc : cl.length ≤ 9223372036854775807 := Kd.F_max (Kd.V_F HN.out)
    go_wp2_with fail
    go_loopw [16] (fun v16 w' => ∃ i : Nat, i ≤ 5 ∧ v16 = .int .i64 (i : Int) ∧ Aside0 (Below w2.heap.size w2 w') ∧ Aside0 (fromP a0 a1 cl (5 - i) i = (r1, r2, r3, r4, r5, r6, r7, r8, r9)) ∧ Aside0 (2 ≤ i → 0 < cl.length)) (fun v16 _ => 5 - (intOf v16).toNat)
    case atStart => exact ⟨0, by omega, rfl, ⟨Below.refl _ _⟩, ⟨HT.out⟩, ⟨fun h => absurd h (by omega)⟩⟩
    case round =>
      obtain ⟨i, hi, rfl, HW, HF, HQ⟩ := hrel
      by_cases hlt : i < 5
      · have HIX := Aside0.mk (fns_idx i hlt)
        have hix := fns_idx i hlt
        have egT := eg_try i
        have HTC := Aside0.mk (try_calls i a0 a1 A0 c0 cl wr _ (Kd.V_below HN.out HW.out) (fun h => HQ.out (by omega)))
        obtain ⟨t, ht⟩ : ∃ t, tryP i a0 a1 cl = t := ⟨_, rfl⟩
        have HYES := Aside0.mk (fromP_yes (n := a0) (o := a1) (c := cl) hlt)
        have HNO := Aside0.mk (fromP_no (n := a0) (o := a1) (c := cl) hlt)
        have HS := Aside0.mk (HSH.out i)
        have HQ1 := Aside0.mk (show i = 1 → tb (tryP i a0 a1 cl) = false → 0 < cl.length from fun e h => by
          subst e
          have h2 : decide ((cl.length : Int) < quorumP a0) = false := h
          have := of_decide_eq_false h2
          have := quorumP_pos a0
          omega)
        rw [ht] at HTC HYES HNO HS HQ1
        clear ht
        cases hb : tb t with
        | true =>
          rw [hb] at HTC HYES HNO HQ1
          clear hb
          have HE := Aside0.mk ((HYES.out rfl).symm.trans HF.out)
          clear HYES HNO HQ1 HF
          go_wp2_with fail
          refine HTC.out.mono ?_
          rintro e w3 ⟨A', c', rfl, hl', hC', hb3⟩
          obtain ⟨s1, s2, s3, s4, s5, s6, s7, s8, s9, s10⟩ := t
          simp only [t9] at HE HS hl' hC' ⊢
          simp only [cellsC]
          have HL3 := Aside0.mk hl'
          have HC3 := Aside0.mk hC'
          have HB3 := Aside0.mk (below_step HW.out hb3)
          have HR3 := Aside0.mk (blk_alloc (blk_below (blk_below HR.out HW.out) hb3) (.cells #[.int .i64 s1, .int .i64 s2, .int .i64 s3, .int .i64 s4, .int .i64 s5, .int .i64 s6, .string s7, .int .i64 s8, .slice A' s9.length c'] 37))
          have HX3 := Aside0.mk (heap_alloc_new w3 (.cells #[.int .i64 s1, .int .i64 s2, .int .i64 s3, .int .i64 s4, .int .i64 s5, .int .i64 s6, .string s7, .int .i64 s8, .slice A' s9.length c'] 37))
          have HCL := Aside0.mk (slices_Clone_int_int.calls A' c' s9 s9 (w3.alloc (.cells #[.int .i64 s1, .int .i64 s2, .int .i64 s3, .int .i64 s4, .int .i64 s5, .int .i64 s6, .string s7, .int .i64 s8, .slice A' s9.length c'] 37)) (Kd.C_alloc hC' _) hl' (by unfold slices_Clone_int_int.f; rw [if_pos HS.out]))
          clear hl' hC' hb3
          go_wp2_with fail
          refine HCL.out.mono ?_
          rintro e w5 ⟨v5, rfl, hr5, hb5⟩
          obtain ⟨A5, c5, rfl⟩ := Kd.R_slice hr5
          have HR5 := Aside0.mk hr5
          have HX5 := Aside0.mk (blk_below HX3.out hb5)
          have HRR5 := Aside0.mk (blk_below HR3.out hb5)
          have HB5 := Aside0.mk hb5
          obtain ⟨x0, x1, x2, x3, x4, x5, x6, x7, x8⟩ := blk_cells9 HX5.out
          obtain ⟨g0, g1, g2, g3, g4, g5, g6, g7, g8⟩ := blk_frozens9 HX5.out
          obtain ⟨z0, z1, z2, z3, z4, z5, z6, z7, z8⟩ := blk_cells9 HRR5.out
          obtain ⟨f0, f1, f2, f3, f4, f5, f6, f7, f8⟩ := blk_frozens9 HRR5.out
          have hlt1 : w.heap.size < w2.heap.size := blk_lt HR.out
          have hle1 : w2.heap.size ≤ w3.heap.size := HB3.out.size
          have hne1 : w3.heap.size ≠ w.heap.size := by omega
          have hne2 : w.heap.size ≠ w3.heap.size := by omega
          clear hr5 hb5 hix egT hx0 hlt1 hle1 hlt hi hlc
          go_wp2_with fail
          obtain ⟨rfl, rfl, rfl, rfl, rfl, rfl, rfl, rfl, rfl⟩ : s1 = r1 ∧ s2 = r2 ∧ s3 = r3 ∧ s4 = r4 ∧ s5 = r5 ∧ s6 = r6 ∧ s7 = r7 ∧ s8 = r8 ∧ s9 = r9 := by
            have := HE.out
            simp only [Prod.mk.injEq] at this
            exact this
          have hlt1 : w.heap.size < w2.heap.size := blk_lt HR.out
          have hle1 : w2.heap.size ≤ w3.heap.size := HB3.out.size
          refine bodyPost_ret (results_cell_row rfl _ _ w.heap.size 37 #[.int .i64 s1, .int .i64 s2, .int .i64 s3, .int .i64 s4, .int .i64 s5, .int .i64 s6, .string s7, .int .i64 s8, .slice A5 s9.length c5] (0, 0) _ rfl (blk_put9 ((Below.heap_setCell w5 ⟨w3.heap.size, 8, none⟩ _ w.heap.size hne2).trans HRR5.out) rfl) Try.underlying37 rfl (by kernel_rfl)) rfl ?_
          refine ⟨_, rfl, Kd.R_mono (Kd.R_lower (Kd.R_step (Kd.R_bound HR5.out) fun k hk _ => ?_) (Nat.le_trans (Nat.le_of_lt hlt1) (Nat.le_trans hle1 (by simp)))) (fun _ _ => trivial), ?_⟩
          · have hk1 : w3.heap.size + 1 ≤ k := by have := hk.2.1; simpa using this
            repeat rw [Below.heap_setCell _ ⟨w.heap.size, _, none⟩ _ k (by show k ≠ w.heap.size; omega)]
            rw [Below.heap_setCell _ ⟨w3.heap.size, 8, none⟩ _ k (by show k ≠ w3.heap.size; omega)]
          · have hB5 : Below w.heap.size w w5 := below_step (below_alloc (below_step HB.out HB3.out) _) HB5.out
            iterate 9 (refine below_set ?_ (Nat.le_refl _))
            exact below_set hB5 (by omega)
        | false =>
          rw [hb] at HTC HYES HNO HQ1
          clear hb
          have HE := Aside0.mk ((HNO.out rfl).trans HF.out)
          clear HYES HNO HF
          go_wp2_with fail
          refine HTC.out.mono ?_
          rintro e w3 ⟨A', c', rfl, hl', hC', hb3⟩
          obtain ⟨s1, s2, s3, s4, s5, s6, s7, s8, s9, s10⟩ := t
          simp only [cellsC]
          have HB3 := Aside0.mk (below_step HW.out hb3)
          clear hl' hC' hb3 HS
          go_wp2_with fail
          go_roundw
          case rel => exact ⟨i + 1, by omega, by go_num, ⟨below_alloc HB3.out _⟩, HE, ⟨fun h => by
            by_cases h1 : i = 1
            · exact HQ1.out h1 (by first | rfl | trivial)
            · exact HQ.out (by omega)⟩⟩
          case measure => simp [intOf]; omega
      · have h5 : i = 5 := by omega
        subst h5
        have HR5 := Aside0.mk (blk_below HR.out HW.out)
        obtain ⟨z0, z1, z2, z3, z4, z5, z6, z7, z8⟩ := blk_cells9 HR5.out
        obtain ⟨f0, f1, f2, f3, f4, f5, f6, f7, f8⟩ := blk_frozens9 HR5.out
        have HB5 := Aside0.mk (below_step HB.out HW.out)
        have HF5 : Aside0 (((4, 0, 0, 0, 0, 0, (⟨#[]⟩ : ByteArray), 0, ([] : List Int)) : CT) = (r1, r2, r3, r4, r5, r6, r7, r8, r9)) := ⟨HF.out⟩
        clear HF
        go_wp2_with fail
        obtain ⟨rfl, rfl, rfl, rfl, rfl, rfl, rfl, rfl, rfl⟩ : 4 = r1 ∧ 0 = r2 ∧ 0 = r3 ∧ 0 = r4 ∧ 0 = r5 ∧ 0 = r6 ∧ (⟨#[]⟩ : ByteArray) = r7 ∧ 0 = r8 ∧ ([] : List Int) = r9 := by
          have := HF5.out
          simp only [Prod.mk.injEq] at this
          exact this
        refine bodyPost_ret (results_cell_row rfl _ _ w.heap.size 37 #[.int .i64 4, .int .i64 0, .int .i64 0, .int .i64 0, .int .i64 0, .int .i64 0, .string (⟨#[]⟩ : ByteArray), .int .i64 0, .slice none 0 0] (0, 0) _ rfl (blk_put9 HR5.out rfl) Try.underlying37 rfl (by kernel_rfl)) rfl ?_
        refine ⟨_, rfl, Kd.R_nil _ _ _ _ _, ?_⟩
        iterate 9 (refine below_set ?_ (Nat.le_refl _))
        exact HB5.out
  · rw [if_neg hs] at h; cases h

end Go.Proofs.Ytomgiaakhpemaaa.P
