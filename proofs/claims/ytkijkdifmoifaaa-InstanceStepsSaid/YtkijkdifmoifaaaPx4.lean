/- Plain Lean functions and their contracts over the translation, written by a program of this session (myprint.py, over the kit's print); no condition but each contract's own. -/
import Derived.Test.YtkijkdifmoifaaaPx0
import Derived.Test.YtkijkdifmoifaaaPx1
import Derived.Test.YtkijkdifmoifaaaPx3
namespace Go.Proofs.Ytkijkdifmoifaaa.P
open Go.RowKit Go.Proofs.YtkijkdifmoifaaaW.PrintWords Go.Proofs.YtkijkdifmoifaaaW.PrintLast Go.Proofs.YtkijkdifmoifaaaW.PrintMore
attribute [local go_sem] max2_int min2_int max_two min_two max_three min_three max_four min_four   -- for this text's walks alone
set_option linter.unusedVariables false
set_option linter.unusedSimpArgs false

attribute [local go_sem high] eqA25
def instance_vote.j0 : Nat → Int → Bool → Int → Int → Int → Int → Int → Int → Int → Int → Int → Int → ByteArray → Int → List Int → Int → Int → Int → Int → Int → Int → Int → ByteArray → Int → List Int → Option (Int × Int × Int × Int × Int × Int × Int × Int × Int × Int × ByteArray × Int × List Int × Bool)
 | 0, _, _, _, _, _, _, _, _, _, _, _, _, _, _, _, _, _, _, _, _, _, _, _, _, _ => none
 | k + 1, x1, x19, x146000, x146001, x146002, x146003, x146004, x146005, x146006, x146007, x146008, x146009, x146010, x146011, x146012, x147000, x147001, x148000, x148001, x148002, x148003, x148004, x148005, x149000, x149001 => if x19 = true then (some (x146000, x146001, x146002, x146003, x146004, x146005, x146006, x146007, x146008, x146009, x146010, x146011, x146012, true)) else (if (x146003 == x147000 && (x146004 == x147001)) = true then (if x146000 = 2 then (if x1 = 1 then (some (x146000, x146001, x146002, x146003, x146004, x146005, x146006, x146007, x146008, x146009, x146010, x146011, x146012, false)) else ((instance_own.f x1 x147000 x147001 x147000 x147001 x148000 x148001 x148002 x148003 x148004 x148005 x149000 x149001).bind fun bt166 => (some (bt166.1, bt166.2.1, bt166.2.2.1, bt166.2.2.2.1, bt166.2.2.2.2.1, bt166.2.2.2.2.2.1, bt166.2.2.2.2.2.2.1, bt166.2.2.2.2.2.2.2.1, bt166.2.2.2.2.2.2.2.2.1, bt166.2.2.2.2.2.2.2.2.2.1, bt166.2.2.2.2.2.2.2.2.2.2.1, bt166.2.2.2.2.2.2.2.2.2.2.2.1, bt166.2.2.2.2.2.2.2.2.2.2.2.2, true)))) else ((instance_own.f x1 x147000 x147001 x147000 x147001 x148000 x148001 x148002 x148003 x148004 x148005 x149000 x149001).bind fun bt181 => (some (bt181.1, bt181.2.1, bt181.2.2.1, bt181.2.2.2.1, bt181.2.2.2.2.1, bt181.2.2.2.2.2.1, bt181.2.2.2.2.2.2.1, bt181.2.2.2.2.2.2.2.1, bt181.2.2.2.2.2.2.2.2.1, bt181.2.2.2.2.2.2.2.2.2.1, bt181.2.2.2.2.2.2.2.2.2.2.1, bt181.2.2.2.2.2.2.2.2.2.2.2.1, bt181.2.2.2.2.2.2.2.2.2.2.2.2, true)))) else ((instance_own.f x1 x147000 x147001 x147000 x147001 x148000 x148001 x148002 x148003 x148004 x148005 x149000 x149001).bind fun bt196 => (some (bt196.1, bt196.2.1, bt196.2.2.1, bt196.2.2.2.1, bt196.2.2.2.2.1, bt196.2.2.2.2.2.1, bt196.2.2.2.2.2.2.1, bt196.2.2.2.2.2.2.2.1, bt196.2.2.2.2.2.2.2.2.1, bt196.2.2.2.2.2.2.2.2.2.1, bt196.2.2.2.2.2.2.2.2.2.2.1, bt196.2.2.2.2.2.2.2.2.2.2.2.1, bt196.2.2.2.2.2.2.2.2.2.2.2.2, true))))
def instance_vote.f (k : Nat) (a0_0 : Int) (a0_1 : Int) (a0_2 : Int) (a0_3 : Int) (a0_4 : Int) (a0_5 : Int) (a0_6 : Int) (a0_7 : Int) (a0_8 : Int) (a0_9 : Int) (a0_10 : ByteArray) (a0_11 : Int) (l0_12 : List Int) (a1 : Int) (a2_0 : Int) (a2_1 : Int) (a3_0 : Int) (a3_1 : Int) (a3_2 : Int) (a3_3 : Int) (a3_4 : Int) (a3_5 : ByteArray) (a4_0 : Int) (l4_1 : List Int) : Option (Int × Int × Int × Int × Int × Int × Int × Int × Int × Int × ByteArray × Int × List Int × Bool) := (instance_own.f a0_0 a0_1 a0_2 a0_3 a0_4 a0_5 a0_6 a0_7 a0_8 a0_9 a0_10 a0_11 l0_12).bind fun bt150 => ((instance_late.f k bt150.1 bt150.2.1 bt150.2.2.1 bt150.2.2.2.1 bt150.2.2.2.2.1 bt150.2.2.2.2.2.1 bt150.2.2.2.2.2.2.1 bt150.2.2.2.2.2.2.2.1 bt150.2.2.2.2.2.2.2.2.1 bt150.2.2.2.2.2.2.2.2.2.1 bt150.2.2.2.2.2.2.2.2.2.2.1 bt150.2.2.2.2.2.2.2.2.2.2.2.1 bt150.2.2.2.2.2.2.2.2.2.2.2.2 a2_0 a2_1).bind fun t165 => (if t165 = true then (some (bt150.1, bt150.2.1, bt150.2.2.1, bt150.2.2.2.1, bt150.2.2.2.2.1, bt150.2.2.2.2.2.1, bt150.2.2.2.2.2.2.1, bt150.2.2.2.2.2.2.2.1, bt150.2.2.2.2.2.2.2.2.1, bt150.2.2.2.2.2.2.2.2.2.1, bt150.2.2.2.2.2.2.2.2.2.2.1, bt150.2.2.2.2.2.2.2.2.2.2.2.1, bt150.2.2.2.2.2.2.2.2.2.2.2.2, false)) else (if (bt150.2.2.2.1 == a2_0 && (bt150.2.2.2.2.1 == a2_1)) = true then (instance_vote.j0 k a1 (bt150.1 == a1) bt150.1 bt150.2.1 bt150.2.2.1 bt150.2.2.2.1 bt150.2.2.2.2.1 bt150.2.2.2.2.2.1 bt150.2.2.2.2.2.2.1 bt150.2.2.2.2.2.2.2.1 bt150.2.2.2.2.2.2.2.2.1 bt150.2.2.2.2.2.2.2.2.2.1 bt150.2.2.2.2.2.2.2.2.2.2.1 bt150.2.2.2.2.2.2.2.2.2.2.2.1 bt150.2.2.2.2.2.2.2.2.2.2.2.2 a2_0 a2_1 a3_0 a3_1 a3_2 a3_3 a3_4 a3_5 a4_0 l4_1) else (instance_vote.j0 k a1 false bt150.1 bt150.2.1 bt150.2.2.1 bt150.2.2.2.1 bt150.2.2.2.2.1 bt150.2.2.2.2.2.1 bt150.2.2.2.2.2.2.1 bt150.2.2.2.2.2.2.2.1 bt150.2.2.2.2.2.2.2.2.1 bt150.2.2.2.2.2.2.2.2.2.1 bt150.2.2.2.2.2.2.2.2.2.2.1 bt150.2.2.2.2.2.2.2.2.2.2.2.1 bt150.2.2.2.2.2.2.2.2.2.2.2.2 a2_0 a2_1 a3_0 a3_1 a3_2 a3_3 a3_4 a3_5 a4_0 l4_1))))
set_option maxHeartbeats 8000000 in
set_option maxRecDepth 100000 in
theorem instance_vote.calls (k : Nat) (a0_0 : Int) (a0_1 : Int) (a0_2 : Int) (a0_3 : Int) (a0_4 : Int) (a0_5 : Int) (a0_6 : Int) (a0_7 : Int) (a0_8 : Int) (a0_9 : Int) (a0_10 : ByteArray) (a0_11 : Int) (A0_12 : Option Addr) (c0_12 : Nat) (l0_12 : List Int) (a1 : Int) (a2_0 : Int) (a2_1 : Int) (a3_0 : Int) (a3_1 : Int) (a3_2 : Int) (a3_3 : Int) (a3_4 : Int) (a3_5 : ByteArray) (a4_0 : Int) (A4_1 : Option Addr) (c4_1 : Nat) (l4_1 : List Int) (r1 : Int) (r2 : Int) (r3 : Int) (r4 : Int) (r5 : Int) (r6 : Int) (r7 : Int) (r8 : Int) (r9 : Int) (r10 : Int) (r11 : ByteArray) (r12 : Int) (r13 : List Int) (r14 : Bool) (w : World) (hr0_12 : Kd.C (Kd.int .i64) w A0_12 l0_12.length l0_12) (hc0_12 : l0_12.length ≤ c0_12) (hr4_1 : Kd.C (Kd.int .i64) w A4_1 l4_1.length l4_1) (hc4_1 : l4_1.length ≤ c4_1) (h : instance_vote.f k a0_0 a0_1 a0_2 a0_3 a0_4 a0_5 a0_6 a0_7 a0_8 a0_9 a0_10 a0_11 l0_12 a1 a2_0 a2_1 a3_0 a3_1 a3_2 a3_3 a3_4 a3_5 a4_0 l4_1 = some (r1, r2, r3, r4, r5, r6, r7, r8, r9, r10, r11, r12, r13, r14)) :
  Calls Try.prog 41 #[.agg #[.int .i64 a0_0, .int .i64 a0_1, .int .i64 a0_2, .int .i64 a0_3, .int .i64 a0_4, .int .i64 a0_5, .int .i64 a0_6, .int .i64 a0_7, .int .i64 a0_8, .int .i64 a0_9, .string a0_10, .int .i64 a0_11, .slice A0_12 l0_12.length c0_12], .int .i64 a1, .agg #[.int .i64 a2_0, .int .i64 a2_1], .agg #[.int .i64 a3_0, .int .i64 a3_1, .int .i64 a3_2, .int .i64 a3_3, .int .i64 a3_4, .string a3_5], .agg #[.int .i64 a4_0, .slice A4_1 l4_1.length c4_1]] w fun e w' => ∃ v12_ : Value, e = .returned (.tuple #[.agg #[.int .i64 r1, .int .i64 r2, .int .i64 r3, .int .i64 r4, .int .i64 r5, .int .i64 r6, .int .i64 r7, .int .i64 r8, .int .i64 r9, .int .i64 r10, .string r11, .int .i64 r12, v12_], .bool r14]) ∧ Kd.R (Kd.int .i64) 3 w' w.heap.size (fun _ => True) v12_ r13 ∧ Below w.heap.size w w' := by
 have hu32 := Try.underlying32
 have hu25 := Try.underlying25
 have hu27 := Try.underlying27
 have hu30 := Try.underlying30
 have HR0_12 := Aside0.mk hr0_12
 have HC0_12 := Aside0.mk hc0_12
 clear hr0_12 hc0_12
 have HR4_1 := Aside0.mk hr4_1
 have HC4_1 := Aside0.mk hc4_1
 clear hr4_1 hc4_1
 have HB := Aside0.mk (Below.refl w.heap.size w)
 have H : ((instance_own.f a0_0 a0_1 a0_2 a0_3 a0_4 a0_5 a0_6 a0_7 a0_8 a0_9 a0_10 a0_11 l0_12).bind fun bt150 => ((instance_late.f k bt150.1 bt150.2.1 bt150.2.2.1 bt150.2.2.2.1 bt150.2.2.2.2.1 bt150.2.2.2.2.2.1 bt150.2.2.2.2.2.2.1 bt150.2.2.2.2.2.2.2.1 bt150.2.2.2.2.2.2.2.2.1 bt150.2.2.2.2.2.2.2.2.2.1 bt150.2.2.2.2.2.2.2.2.2.2.1 bt150.2.2.2.2.2.2.2.2.2.2.2.1 bt150.2.2.2.2.2.2.2.2.2.2.2.2 a2_0 a2_1).bind fun t165 => (if t165 = true then (some (bt150.1, bt150.2.1, bt150.2.2.1, bt150.2.2.2.1, bt150.2.2.2.2.1, bt150.2.2.2.2.2.1, bt150.2.2.2.2.2.2.1, bt150.2.2.2.2.2.2.2.1, bt150.2.2.2.2.2.2.2.2.1, bt150.2.2.2.2.2.2.2.2.2.1, bt150.2.2.2.2.2.2.2.2.2.2.1, bt150.2.2.2.2.2.2.2.2.2.2.2.1, bt150.2.2.2.2.2.2.2.2.2.2.2.2, false)) else (if (bt150.2.2.2.1 == a2_0 && (bt150.2.2.2.2.1 == a2_1)) = true then (instance_vote.j0 k a1 (bt150.1 == a1) bt150.1 bt150.2.1 bt150.2.2.1 bt150.2.2.2.1 bt150.2.2.2.2.1 bt150.2.2.2.2.2.1 bt150.2.2.2.2.2.2.1 bt150.2.2.2.2.2.2.2.1 bt150.2.2.2.2.2.2.2.2.1 bt150.2.2.2.2.2.2.2.2.2.1 bt150.2.2.2.2.2.2.2.2.2.2.1 bt150.2.2.2.2.2.2.2.2.2.2.2.1 bt150.2.2.2.2.2.2.2.2.2.2.2.2 a2_0 a2_1 a3_0 a3_1 a3_2 a3_3 a3_4 a3_5 a4_0 l4_1) else (instance_vote.j0 k a1 false bt150.1 bt150.2.1 bt150.2.2.1 bt150.2.2.2.1 bt150.2.2.2.2.1 bt150.2.2.2.2.2.1 bt150.2.2.2.2.2.2.1 bt150.2.2.2.2.2.2.2.1 bt150.2.2.2.2.2.2.2.2.1 bt150.2.2.2.2.2.2.2.2.2.1 bt150.2.2.2.2.2.2.2.2.2.2.1 bt150.2.2.2.2.2.2.2.2.2.2.2.1 bt150.2.2.2.2.2.2.2.2.2.2.2.2 a2_0 a2_1 a3_0 a3_1 a3_2 a3_3 a3_4 a3_5 a4_0 l4_1))))) = some (r1, r2, r3, r4, r5, r6, r7, r8, r9, r10, r11, r12, r13, r14) := h
 clear h
 replace H := Option.bind_eq_some_iff.mp H
 obtain ⟨⟨t150, t151, t152, t153, t154, t155, t156, t157, t158, t159, t160, t161, t162⟩, A60, H⟩ := H
 replace H : ((instance_late.f k t150 t151 t152 t153 t154 t155 t156 t157 t158 t159 t160 t161 t162 a2_0 a2_1).bind fun t165 => (if t165 = true then (some (t150, t151, t152, t153, t154, t155, t156, t157, t158, t159, t160, t161, t162, false)) else (if (t153 == a2_0 && (t154 == a2_1)) = true then (instance_vote.j0 k a1 (t150 == a1) t150 t151 t152 t153 t154 t155 t156 t157 t158 t159 t160 t161 t162 a2_0 a2_1 a3_0 a3_1 a3_2 a3_3 a3_4 a3_5 a4_0 l4_1) else (instance_vote.j0 k a1 false t150 t151 t152 t153 t154 t155 t156 t157 t158 t159 t160 t161 t162 a2_0 a2_1 a3_0 a3_1 a3_2 a3_3 a3_4 a3_5 a4_0 l4_1)))) = some (r1, r2, r3, r4, r5, r6, r7, r8, r9, r10, r11, r12, r13, r14) := H
 have A6 := Aside0.mk A60
 clear A60
 replace H := Option.bind_eq_some_iff.mp H
 obtain ⟨t165, A70, H⟩ := H
 replace H : (if t165 = true then (some (t150, t151, t152, t153, t154, t155, t156, t157, t158, t159, t160, t161, t162, false)) else (if (t153 == a2_0 && (t154 == a2_1)) = true then (instance_vote.j0 k a1 (t150 == a1) t150 t151 t152 t153 t154 t155 t156 t157 t158 t159 t160 t161 t162 a2_0 a2_1 a3_0 a3_1 a3_2 a3_3 a3_4 a3_5 a4_0 l4_1) else (instance_vote.j0 k a1 false t150 t151 t152 t153 t154 t155 t156 t157 t158 t159 t160 t161 t162 a2_0 a2_1 a3_0 a3_1 a3_2 a3_3 a3_4 a3_5 a4_0 l4_1))) = some (r1, r2, r3, r4, r5, r6, r7, r8, r9, r10, r11, r12, r13, r14) := H
 have A7 := Aside0.mk A70
 clear A70
 by_cases c8 : t165 = true
 ·
  subst c8
  have H1 : (some (t150, t151, t152, t153, t154, t155, t156, t157, t158, t159, t160, t161, t162, false)) = some (r1, r2, r3, r4, r5, r6, r7, r8, r9, r10, r11, r12, r13, r14) := by rw [if_pos rfl] at H; exact H
  clear H
  have H := H1
  clear H1
  simp only [Option.some.injEq, Prod.mk.injEq] at H
  obtain ⟨rfl, rfl, rfl, rfl, rfl, rfl, rfl, rfl, rfl, rfl, rfl, rfl, rfl, rfl⟩ := H
  go_enter Try.func41, Try.ntmps41
  go_wp2_with (first | ((with_reducible refine gate_dst (N := 5) rfl ?_); refine box_event ?hg (N := 5) ?hd (cs := #[.int .i64 a0_0, .int .i64 a0_1, .int .i64 a0_2, .int .i64 a0_3, .int .i64 a0_4, .int .i64 a0_5, .int .i64 a0_6, .int .i64 a0_7, .int .i64 a0_8, .int .i64 a0_9, .string a0_10, .int .i64 a0_11, .slice A0_12 l0_12.length c0_12]) (t := 32) ?hr ?_; (case hd => rfl); (case hg => rfl); (case hr => first | (go_simp; done) | (go_simp; rfl)); intro gb145 hg w9 hbox hb; have s_ := step_size_ (gw_ HB) hb hg; have n0_ := Aside0.mk s_.1; have n1_ := Aside0.mk (hbox); have n2_ := Aside0.mk s_.2; clear s_; have n3_ := n2_; clear HB; have HB := n0_; have BK145 := n1_; have GW145 := n2_; have GE145 := n3_; clear n0_ n1_ n2_ n3_; clear hb hbox hg) | ((with_reducible refine gate_dst (N := 7) rfl ?_); refine box_event ?hg (N := 7) ?hd (cs := #[.int .i64 a2_0, .int .i64 a2_1]) (t := 25) ?hr ?_; (case hd => rfl); (case hg => rfl); (case hr => first | (go_simp; done) | (go_simp; rfl)); intro gb146 hg w10 hbox hb; have n0_ := Aside0.mk (blk_below (g := gb145) (bk BK145) hb); have s_ := step_size_ (gw_ HB) hb hg; have n1_ := Aside0.mk s_.1; have n2_ := Aside0.mk (hbox); have n3_ := Aside0.mk s_.2; clear s_; have n4_ := n3_; have l_ := blk_lt_ (g := gb145) hg (bk BK145); have n5_ := Aside0.mk (Nat.ne_of_lt l_); have n6_ := Aside0.mk (Nat.ne_of_gt l_); clear l_; clear BK145; clear HB; have BK145 := n0_; have HB := n1_; have BK146 := n2_; have GW146 := n3_; have GE146 := n4_; have NB145_146 := n5_; have NB146_145 := n6_; clear n0_ n1_ n2_ n3_ n4_ n5_ n6_; clear hb hbox hg) | ((with_reducible refine gate_dst (N := 8) rfl ?_); refine box_event ?hg (N := 8) ?hd (cs := #[.int .i64 a3_0, .int .i64 a3_1, .int .i64 a3_2, .int .i64 a3_3, .int .i64 a3_4, .string a3_5]) (t := 27) ?hr ?_; (case hd => rfl); (case hg => rfl); (case hr => first | (go_simp; done) | (go_simp; rfl)); intro gb147 hg w11 hbox hb; have n0_ := Aside0.mk (blk_below (g := gb145) (bk BK145) hb); have n1_ := Aside0.mk (blk_below (g := gb146) (bk BK146) hb); have s_ := step_size_ (gw_ HB) hb hg; have n2_ := Aside0.mk s_.1; have n3_ := Aside0.mk (hbox); have n4_ := Aside0.mk s_.2; clear s_; have n5_ := n4_; have l_ := blk_lt_ (g := gb145) hg (bk BK145); have n6_ := Aside0.mk (Nat.ne_of_lt l_); have n7_ := Aside0.mk (Nat.ne_of_gt l_); clear l_; have l_ := blk_lt_ (g := gb146) hg (bk BK146); have n8_ := Aside0.mk (Nat.ne_of_lt l_); have n9_ := Aside0.mk (Nat.ne_of_gt l_); clear l_; clear BK145; clear BK146; clear HB; have BK145 := n0_; have BK146 := n1_; have HB := n2_; have BK147 := n3_; have GW147 := n4_; have GE147 := n5_; have NB145_147 := n6_; have NB147_145 := n7_; have NB146_147 := n8_; have NB147_146 := n9_; clear n0_ n1_ n2_ n3_ n4_ n5_ n6_ n7_ n8_ n9_; clear hb hbox hg) | ((with_reducible refine gate_dst (N := 9) rfl ?_); refine box_event ?hg (N := 9) ?hd (cs := #[.int .i64 a4_0, .slice A4_1 l4_1.length c4_1]) (t := 30) ?hr ?_; (case hd => rfl); (case hg => rfl); (case hr => first | (go_simp; done) | (go_simp; rfl)); intro gb148 hg w12 hbox hb; have n0_ := Aside0.mk (blk_below (g := gb145) (bk BK145) hb); have n1_ := Aside0.mk (blk_below (g := gb146) (bk BK146) hb); have n2_ := Aside0.mk (blk_below (g := gb147) (bk BK147) hb); have s_ := step_size_ (gw_ HB) hb hg; have n3_ := Aside0.mk s_.1; have n4_ := Aside0.mk (hbox); have n5_ := Aside0.mk s_.2; clear s_; have n6_ := n5_; have l_ := blk_lt_ (g := gb145) hg (bk BK145); have n7_ := Aside0.mk (Nat.ne_of_lt l_); have n8_ := Aside0.mk (Nat.ne_of_gt l_); clear l_; have l_ := blk_lt_ (g := gb146) hg (bk BK146); have n9_ := Aside0.mk (Nat.ne_of_lt l_); have n10_ := Aside0.mk (Nat.ne_of_gt l_); clear l_; have l_ := blk_lt_ (g := gb147) hg (bk BK147); have n11_ := Aside0.mk (Nat.ne_of_lt l_); have n12_ := Aside0.mk (Nat.ne_of_gt l_); clear l_; clear BK145; clear BK146; clear BK147; clear HB; have BK145 := n0_; have BK146 := n1_; have BK147 := n2_; have HB := n3_; have BK148 := n4_; have GW148 := n5_; have GE148 := n6_; have NB145_148 := n7_; have NB148_145 := n8_; have NB146_148 := n9_; have NB148_146 := n10_; have NB147_148 := n11_; have NB148_147 := n12_; clear n0_ n1_ n2_ n3_ n4_ n5_ n6_ n7_ n8_ n9_ n10_ n11_ n12_; clear hb hbox hg) | ((with_reducible refine gate_dst (N := 10) rfl ?_); refine box_event ?hg (N := 10) ?hd (cs := #[.int .i64 0, .int .i64 0, .int .i64 0, .int .i64 0, .int .i64 0, .int .i64 0, .int .i64 0, .int .i64 0, .int .i64 0, .int .i64 0, .string (⟨#[]⟩ : ByteArray), .int .i64 0, .slice none 0 0]) (t := 32) ?hr ?_; (case hd => rfl); (case hg => rfl); (case hr => first | (go_simp; done) | (go_simp; rfl)); intro gb149 hg w13 hbox hb; have n0_ := Aside0.mk (blk_below (g := gb145) (bk BK145) hb); have n1_ := Aside0.mk (blk_below (g := gb146) (bk BK146) hb); have n2_ := Aside0.mk (blk_below (g := gb147) (bk BK147) hb); have n3_ := Aside0.mk (blk_below (g := gb148) (bk BK148) hb); have s_ := step_size_ (gw_ HB) hb hg; have n4_ := Aside0.mk s_.1; have n5_ := Aside0.mk (hbox); have n6_ := Aside0.mk s_.2; clear s_; have n7_ := n6_; have l_ := blk_lt_ (g := gb145) hg (bk BK145); have n8_ := Aside0.mk (Nat.ne_of_lt l_); have n9_ := Aside0.mk (Nat.ne_of_gt l_); clear l_; have l_ := blk_lt_ (g := gb146) hg (bk BK146); have n10_ := Aside0.mk (Nat.ne_of_lt l_); have n11_ := Aside0.mk (Nat.ne_of_gt l_); clear l_; have l_ := blk_lt_ (g := gb147) hg (bk BK147); have n12_ := Aside0.mk (Nat.ne_of_lt l_); have n13_ := Aside0.mk (Nat.ne_of_gt l_); clear l_; have l_ := blk_lt_ (g := gb148) hg (bk BK148); have n14_ := Aside0.mk (Nat.ne_of_lt l_); have n15_ := Aside0.mk (Nat.ne_of_gt l_); clear l_; clear BK145; clear BK146; clear BK147; clear BK148; clear HB; have BK145 := n0_; have BK146 := n1_; have BK147 := n2_; have BK148 := n3_; have HB := n4_; have BK149 := n5_; have GW149 := n6_; have GE149 := n7_; have NB145_149 := n8_; have NB149_145 := n9_; have NB146_149 := n10_; have NB149_146 := n11_; have NB147_149 := n12_; have NB149_147 := n13_; have NB148_149 := n14_; have NB149_148 := n15_; clear n0_ n1_ n2_ n3_ n4_ n5_ n6_ n7_ n8_ n9_ n10_ n11_ n12_ n13_ n14_ n15_; clear hb hbox hg; have hnb14 := NB145_146.out; have hnc14 := NB146_145.out; have hnb15 := NB145_147.out; have hnc15 := NB147_145.out; have hnb16 := NB145_148.out; have hnc16 := NB148_145.out; have hnb17 := NB145_149.out; have hnc17 := NB149_145.out; obtain ⟨hcz18_0, hcz18_1, hcz18_2, hcz18_3, hcz18_4, hcz18_5, hcz18_6, hcz18_7, hcz18_8, hcz18_9, hcz18_10, hcz18_11, hcz18_12⟩ := blk_cells13 BK145.out; obtain ⟨hfz18_0, hfz18_1, hfz18_2, hfz18_3, hfz18_4, hfz18_5, hfz18_6, hfz18_7, hfz18_8, hfz18_9, hfz18_10, hfz18_11, hfz18_12⟩ := blk_frozens13 BK145.out) | ((with_reducible refine gate_callee (f := 39) rfl ?_); refine goesL_ (some 13) rfl rfl Try.func39 (by kernel_rfl) rfl #[.agg #[.int .i64 a0_0, .int .i64 a0_1, .int .i64 a0_2, .int .i64 a0_3, .int .i64 a0_4, .int .i64 a0_5, .int .i64 a0_6, .int .i64 a0_7, .int .i64 a0_8, .int .i64 a0_9, .string a0_10, .int .i64 a0_11, .slice A0_12 l0_12.length c0_12]] rfl (by (try simp only [List.map_toArray, List.map_cons, List.map_nil]); first | done | rfl | (simp only [List.length_drop, List.length_take]; rfl)) ?_; (with_reducible refine (instance_own.calls a0_0 a0_1 a0_2 a0_3 a0_4 a0_5 a0_6 a0_7 a0_8 a0_9 a0_10 a0_11 _ _ l0_12 t150 t151 t152 t153 t154 t155 t156 t157 t158 t159 t160 t161 t162 _ ?side1 ?side2 A6.out).mono ?_); (case side1 => repeat (first | exact (Kd.C_below HR0_12.out HB.out) | (with_reducible refine Kd.C_alloc ?_ _) | (with_reducible refine Kd.C_drewN ?_ _) | (with_reducible refine Kd.C_drew ?_))); (case side2 => exact HC0_12.out); rintro e w19 ⟨v163, rfl, ho0, hb⟩; refine ⟨_, rfl, ?_⟩; have n0_ := Aside0.mk (Kd.R_lower ho0 (below_size (gw_ HB))); have n1_ := Aside0.mk (blk_below (g := gb145) (bk BK145) hb); have n2_ := Aside0.mk (blk_below (g := gb146) (bk BK146) hb); have n3_ := Aside0.mk (blk_below (g := gb147) (bk BK147) hb); have n4_ := Aside0.mk (blk_below (g := gb148) (bk BK148) hb); have n5_ := Aside0.mk (blk_below (g := gb149) (bk BK149) hb); have n6_ := Aside0.mk (below_step (gw_ HB) hb); clear BK145; clear BK146; clear BK147; clear BK148; clear BK149; clear HB; have HO164 := n0_; have BK145 := n1_; have BK146 := n2_; have BK147 := n3_; have BK148 := n4_; have BK149 := n5_; have HB := n6_; clear n0_ n1_ n2_ n3_ n4_ n5_ n6_; (try clear hb); (try clear hb2); (try clear hk); (try clear hi); (try clear ho0); obtain ⟨hcz20_0, hcz20_1, hcz20_2, hcz20_3, hcz20_4, hcz20_5, hcz20_6, hcz20_7, hcz20_8, hcz20_9, hcz20_10, hcz20_11, hcz20_12⟩ := blk_cells13 BK145.out; obtain ⟨hfz20_0, hfz20_1, hfz20_2, hfz20_3, hfz20_4, hfz20_5, hfz20_6, hfz20_7, hfz20_8, hfz20_9, hfz20_10, hfz20_11, hfz20_12⟩ := blk_frozens13 BK145.out; obtain ⟨Ao21, co21, eo21⟩ := Kd.R_slice HO164.out; subst eo21; have hnb22 := NB146_147.out; have hnc22 := NB147_146.out; have hnb23 := NB146_148.out; have hnc23 := NB148_146.out; have hnb24 := NB146_149.out; have hnc24 := NB149_146.out; obtain ⟨hcz25_0, hcz25_1⟩ := blk_cells2 BK146.out; obtain ⟨hfz25_0, hfz25_1⟩ := blk_frozens2 BK146.out) | ((with_reducible refine gate_callee (f := 40) rfl ?_); refine goesL_ (some 17) rfl rfl Try.func40 (by kernel_rfl) rfl #[.agg #[.int .i64 t150, .int .i64 t151, .int .i64 t152, .int .i64 t153, .int .i64 t154, .int .i64 t155, .int .i64 t156, .int .i64 t157, .int .i64 t158, .int .i64 t159, .string t160, .int .i64 t161, .slice Ao21 t162.length co21], .agg #[.int .i64 a2_0, .int .i64 a2_1]] rfl (by (try simp only [List.map_toArray, List.map_cons, List.map_nil]); first | done | rfl | (simp only [List.length_drop, List.length_take]; rfl)) ?_; (with_reducible refine (instance_late.calls k t150 t151 t152 t153 t154 t155 t156 t157 t158 t159 t160 t161 _ _ t162 a2_0 a2_1 true _ ?side1 ?side2 A7.out).mono ?_); (case side1 => refine (Kd.R_reads' (e := 3) (base := w.heap.size) (ok := fun k_ => True) (n := t162.length) (c := co21) ?_).2.2; exact (by (with_reducible repeat (first | apply Kd.R_alloc | apply Kd.R_drewN | apply Kd.R_drew)); exact (Kd.R_mono (Kd.R_far13 (g := gb145) (Kd.R_types HO164.out BK145.out (by decide)) (fun _ hk => hk.2)) (fun _ h_ => h_.1)))); (case side2 => exact (Kd.R_reads' HO164.out).2.1); rintro e w26 ⟨rfl, hb⟩; refine ⟨_, rfl, ?_⟩; have n0_ := Aside0.mk (Kd.R_below (by (with_reducible repeat (first | apply Kd.R_alloc | apply Kd.R_drewN | apply Kd.R_drew)); exact (Kd.R_mono (Kd.R_far13 (g := gb145) (Kd.R_types HO164.out BK145.out (by decide)) (fun _ hk => hk.2)) (fun _ h_ => h_.1))) hb); have n1_ := Aside0.mk (blk_below (g := gb145) (o := .cells #[.int .i64 t150, .int .i64 t151, .int .i64 t152, .int .i64 t153, .int .i64 t154, .int .i64 t155, .int .i64 t156, .int .i64 t157, .int .i64 t158, .int .i64 t159, .string t160, .int .i64 t161, .slice Ao21 t162.length co21] 32 (0, 0)) (by (with_reducible repeat (first | refine blk_drewN ?_ _ | refine blk_drew ?_ | refine blk_alloc ?_ _)); refine blk_put13 (cs := #[.int .i64 a0_0, .int .i64 a0_1, .int .i64 a0_2, .int .i64 a0_3, .int .i64 a0_4, .int .i64 a0_5, .int .i64 a0_6, .int .i64 a0_7, .int .i64 a0_8, .int .i64 a0_9, .string a0_10, .int .i64 a0_11, .slice A0_12 l0_12.length c0_12]) ?_ rfl; (with_reducible repeat (first | refine blk_drewN ?_ _ | refine blk_drew ?_ | refine blk_alloc ?_ _)); exact BK145.out) hb); have n2_ := Aside0.mk (blk_below (g := gb146) (o := .cells #[.int .i64 a2_0, .int .i64 a2_1] 25 (0, 0)) (by (with_reducible repeat (first | refine blk_drewN ?_ _ | refine blk_drew ?_ | refine blk_alloc ?_ _)); (iterate 13 (refine blk_far ?_ NB146_145.out _)); (with_reducible repeat (first | refine blk_drewN ?_ _ | refine blk_drew ?_ | refine blk_alloc ?_ _)); exact BK146.out) hb); have n3_ := Aside0.mk (blk_below (g := gb147) (o := .cells #[.int .i64 a3_0, .int .i64 a3_1, .int .i64 a3_2, .int .i64 a3_3, .int .i64 a3_4, .string a3_5] 27 (0, 0)) (by (with_reducible repeat (first | refine blk_drewN ?_ _ | refine blk_drew ?_ | refine blk_alloc ?_ _)); (iterate 13 (refine blk_far ?_ NB147_145.out _)); (with_reducible repeat (first | refine blk_drewN ?_ _ | refine blk_drew ?_ | refine blk_alloc ?_ _)); exact BK147.out) hb); have n4_ := Aside0.mk (blk_below (g := gb148) (o := .cells #[.int .i64 a4_0, .slice A4_1 l4_1.length c4_1] 30 (0, 0)) (by (with_reducible repeat (first | refine blk_drewN ?_ _ | refine blk_drew ?_ | refine blk_alloc ?_ _)); (iterate 13 (refine blk_far ?_ NB148_145.out _)); (with_reducible repeat (first | refine blk_drewN ?_ _ | refine blk_drew ?_ | refine blk_alloc ?_ _)); exact BK148.out) hb); have n5_ := Aside0.mk (blk_below (g := gb149) (o := .cells #[.int .i64 0, .int .i64 0, .int .i64 0, .int .i64 0, .int .i64 0, .int .i64 0, .int .i64 0, .int .i64 0, .int .i64 0, .int .i64 0, .string (⟨#[]⟩ : ByteArray), .int .i64 0, .slice none 0 0] 32 (0, 0)) (by (with_reducible repeat (first | refine blk_drewN ?_ _ | refine blk_drew ?_ | refine blk_alloc ?_ _)); (iterate 13 (refine blk_far ?_ NB149_145.out _)); (with_reducible repeat (first | refine blk_drewN ?_ _ | refine blk_drew ?_ | refine blk_alloc ?_ _)); exact BK149.out) hb); have n6_ := Aside0.mk (below_step (gw_ HB) hb); clear HO164; clear BK145; clear BK146; clear BK147; clear BK148; clear BK149; clear HB; have HO164 := n0_; have BK145 := n1_; have BK146 := n2_; have BK147 := n3_; have BK148 := n4_; have BK149 := n5_; have HB := n6_; clear n0_ n1_ n2_ n3_ n4_ n5_ n6_; (try clear hb); (try clear hb2); (try clear hk); (try clear hi); obtain ⟨hcz27_0, hcz27_1, hcz27_2, hcz27_3, hcz27_4, hcz27_5, hcz27_6, hcz27_7, hcz27_8, hcz27_9, hcz27_10, hcz27_11, hcz27_12⟩ := blk_cells13 BK145.out; obtain ⟨hfz27_0, hfz27_1, hfz27_2, hfz27_3, hfz27_4, hfz27_5, hfz27_6, hfz27_7, hfz27_8, hfz27_9, hfz27_10, hfz27_11, hfz27_12⟩ := blk_frozens13 BK145.out; have hnb28 := NB149_147.out; have hnc28 := NB147_149.out; have hnb29 := NB149_148.out; have hnc29 := NB148_149.out; obtain ⟨hcz30_0, hcz30_1, hcz30_2, hcz30_3, hcz30_4, hcz30_5, hcz30_6, hcz30_7, hcz30_8, hcz30_9, hcz30_10, hcz30_11, hcz30_12⟩ := blk_cells13 BK149.out; have hfz30_0 := blk_frozen BK149.out 0; have hfz30_1 := blk_frozen BK149.out 1; have hfz30_2 := blk_frozen BK149.out 2; have hfz30_3 := blk_frozen BK149.out 3; have hfz30_4 := blk_frozen BK149.out 4; have hfz30_5 := blk_frozen BK149.out 5; have hfz30_6 := blk_frozen BK149.out 6; have hfz30_7 := blk_frozen BK149.out 7; have hfz30_8 := blk_frozen BK149.out 8; have hfz30_9 := blk_frozen BK149.out 9; have hfz30_10 := blk_frozen BK149.out 10; have hfz30_11 := blk_frozen BK149.out 11; have hfz30_12 := blk_frozen BK149.out 12))
  refine bodyPost_ret (results_ct rfl _ _ gb149 32 #[.int .i64 t150, .int .i64 t151, .int .i64 t152, .int .i64 t153, .int .i64 t154, .int .i64 t155, .int .i64 t156, .int .i64 t157, .int .i64 t158, .int .i64 t159, .string t160, .int .i64 t161, .slice Ao21 t162.length co21] (0, 0) _ rfl (by (with_reducible repeat (first | refine blk_drewN ?_ _ | refine blk_drew ?_ | refine blk_alloc ?_ _)); refine blk_put13 (cs := #[.int .i64 0, .int .i64 0, .int .i64 0, .int .i64 0, .int .i64 0, .int .i64 0, .int .i64 0, .int .i64 0, .int .i64 0, .int .i64 0, .string (⟨#[]⟩ : ByteArray), .int .i64 0, .slice none 0 0]) ?_ rfl; (with_reducible repeat (first | refine blk_drewN ?_ _ | refine blk_drew ?_ | refine blk_alloc ?_ _)); exact BK149.out) Try.underlying32 rfl (by kernel_rfl)) rfl ?_
  exact ⟨_, by first | rfl | (simp [errW_none, errW_some] <;> rfl) | (simp [*, errW_none, errW_some] <;> rfl), by (with_reducible repeat (first | apply Kd.R_alloc | apply Kd.R_drewN | apply Kd.R_drew)); exact Kd.R_mono (Kd.R_far13 (g := gb149) (Kd.R_types HO164.out BK149.out (by decide)) (fun _ hk => hk.2)) (fun _ hk => trivial), gw_ HB⟩
 ·
  replace c8 := Bool.eq_false_iff.mpr c8
  subst c8
  have H1 : (if (t153 == a2_0 && (t154 == a2_1)) = true then (instance_vote.j0 k a1 (t150 == a1) t150 t151 t152 t153 t154 t155 t156 t157 t158 t159 t160 t161 t162 a2_0 a2_1 a3_0 a3_1 a3_2 a3_3 a3_4 a3_5 a4_0 l4_1) else (instance_vote.j0 k a1 false t150 t151 t152 t153 t154 t155 t156 t157 t158 t159 t160 t161 t162 a2_0 a2_1 a3_0 a3_1 a3_2 a3_3 a3_4 a3_5 a4_0 l4_1)) = some (r1, r2, r3, r4, r5, r6, r7, r8, r9, r10, r11, r12, r13, r14) := by rw [if_neg (show ¬ (false = true) by decide)] at H; exact H
  clear H
  have H := H1
  clear H1
  have HC31 := Aside0.mk H
  clear H
  go_enter Try.func41, Try.ntmps41
  go_upto_region 4 with (first | ((with_reducible refine gate_dst (N := 5) rfl ?_); refine box_event ?hg (N := 5) ?hd (cs := #[.int .i64 a0_0, .int .i64 a0_1, .int .i64 a0_2, .int .i64 a0_3, .int .i64 a0_4, .int .i64 a0_5, .int .i64 a0_6, .int .i64 a0_7, .int .i64 a0_8, .int .i64 a0_9, .string a0_10, .int .i64 a0_11, .slice A0_12 l0_12.length c0_12]) (t := 32) ?hr ?_; (case hd => rfl); (case hg => rfl); (case hr => first | (go_simp; done) | (go_simp; rfl)); intro gb145 hg w32 hbox hb; have s_ := step_size_ (gw_ HB) hb hg; have n0_ := Aside0.mk s_.1; have n1_ := Aside0.mk (hbox); have n2_ := Aside0.mk s_.2; clear s_; have n3_ := n2_; clear HB; have HB := n0_; have BK145 := n1_; have GW145 := n2_; have GE145 := n3_; clear n0_ n1_ n2_ n3_; clear hb hbox hg) | ((with_reducible refine gate_dst (N := 7) rfl ?_); refine box_event ?hg (N := 7) ?hd (cs := #[.int .i64 a2_0, .int .i64 a2_1]) (t := 25) ?hr ?_; (case hd => rfl); (case hg => rfl); (case hr => first | (go_simp; done) | (go_simp; rfl)); intro gb146 hg w33 hbox hb; have n0_ := Aside0.mk (blk_below (g := gb145) (bk BK145) hb); have s_ := step_size_ (gw_ HB) hb hg; have n1_ := Aside0.mk s_.1; have n2_ := Aside0.mk (hbox); have n3_ := Aside0.mk s_.2; clear s_; have n4_ := n3_; have l_ := blk_lt_ (g := gb145) hg (bk BK145); have n5_ := Aside0.mk (Nat.ne_of_lt l_); have n6_ := Aside0.mk (Nat.ne_of_gt l_); clear l_; clear BK145; clear HB; have BK145 := n0_; have HB := n1_; have BK146 := n2_; have GW146 := n3_; have GE146 := n4_; have NB145_146 := n5_; have NB146_145 := n6_; clear n0_ n1_ n2_ n3_ n4_ n5_ n6_; clear hb hbox hg) | ((with_reducible refine gate_dst (N := 8) rfl ?_); refine box_event ?hg (N := 8) ?hd (cs := #[.int .i64 a3_0, .int .i64 a3_1, .int .i64 a3_2, .int .i64 a3_3, .int .i64 a3_4, .string a3_5]) (t := 27) ?hr ?_; (case hd => rfl); (case hg => rfl); (case hr => first | (go_simp; done) | (go_simp; rfl)); intro gb147 hg w34 hbox hb; have n0_ := Aside0.mk (blk_below (g := gb145) (bk BK145) hb); have n1_ := Aside0.mk (blk_below (g := gb146) (bk BK146) hb); have s_ := step_size_ (gw_ HB) hb hg; have n2_ := Aside0.mk s_.1; have n3_ := Aside0.mk (hbox); have n4_ := Aside0.mk s_.2; clear s_; have n5_ := n4_; have l_ := blk_lt_ (g := gb145) hg (bk BK145); have n6_ := Aside0.mk (Nat.ne_of_lt l_); have n7_ := Aside0.mk (Nat.ne_of_gt l_); clear l_; have l_ := blk_lt_ (g := gb146) hg (bk BK146); have n8_ := Aside0.mk (Nat.ne_of_lt l_); have n9_ := Aside0.mk (Nat.ne_of_gt l_); clear l_; clear BK145; clear BK146; clear HB; have BK145 := n0_; have BK146 := n1_; have HB := n2_; have BK147 := n3_; have GW147 := n4_; have GE147 := n5_; have NB145_147 := n6_; have NB147_145 := n7_; have NB146_147 := n8_; have NB147_146 := n9_; clear n0_ n1_ n2_ n3_ n4_ n5_ n6_ n7_ n8_ n9_; clear hb hbox hg) | ((with_reducible refine gate_dst (N := 9) rfl ?_); refine box_event ?hg (N := 9) ?hd (cs := #[.int .i64 a4_0, .slice A4_1 l4_1.length c4_1]) (t := 30) ?hr ?_; (case hd => rfl); (case hg => rfl); (case hr => first | (go_simp; done) | (go_simp; rfl)); intro gb148 hg w35 hbox hb; have n0_ := Aside0.mk (blk_below (g := gb145) (bk BK145) hb); have n1_ := Aside0.mk (blk_below (g := gb146) (bk BK146) hb); have n2_ := Aside0.mk (blk_below (g := gb147) (bk BK147) hb); have s_ := step_size_ (gw_ HB) hb hg; have n3_ := Aside0.mk s_.1; have n4_ := Aside0.mk (hbox); have n5_ := Aside0.mk s_.2; clear s_; have n6_ := n5_; have l_ := blk_lt_ (g := gb145) hg (bk BK145); have n7_ := Aside0.mk (Nat.ne_of_lt l_); have n8_ := Aside0.mk (Nat.ne_of_gt l_); clear l_; have l_ := blk_lt_ (g := gb146) hg (bk BK146); have n9_ := Aside0.mk (Nat.ne_of_lt l_); have n10_ := Aside0.mk (Nat.ne_of_gt l_); clear l_; have l_ := blk_lt_ (g := gb147) hg (bk BK147); have n11_ := Aside0.mk (Nat.ne_of_lt l_); have n12_ := Aside0.mk (Nat.ne_of_gt l_); clear l_; clear BK145; clear BK146; clear BK147; clear HB; have BK145 := n0_; have BK146 := n1_; have BK147 := n2_; have HB := n3_; have BK148 := n4_; have GW148 := n5_; have GE148 := n6_; have NB145_148 := n7_; have NB148_145 := n8_; have NB146_148 := n9_; have NB148_146 := n10_; have NB147_148 := n11_; have NB148_147 := n12_; clear n0_ n1_ n2_ n3_ n4_ n5_ n6_ n7_ n8_ n9_ n10_ n11_ n12_; clear hb hbox hg) | ((with_reducible refine gate_dst (N := 10) rfl ?_); refine box_event ?hg (N := 10) ?hd (cs := #[.int .i64 0, .int .i64 0, .int .i64 0, .int .i64 0, .int .i64 0, .int .i64 0, .int .i64 0, .int .i64 0, .int .i64 0, .int .i64 0, .string (⟨#[]⟩ : ByteArray), .int .i64 0, .slice none 0 0]) (t := 32) ?hr ?_; (case hd => rfl); (case hg => rfl); (case hr => first | (go_simp; done) | (go_simp; rfl)); intro gb149 hg w36 hbox hb; have n0_ := Aside0.mk (blk_below (g := gb145) (bk BK145) hb); have n1_ := Aside0.mk (blk_below (g := gb146) (bk BK146) hb); have n2_ := Aside0.mk (blk_below (g := gb147) (bk BK147) hb); have n3_ := Aside0.mk (blk_below (g := gb148) (bk BK148) hb); have s_ := step_size_ (gw_ HB) hb hg; have n4_ := Aside0.mk s_.1; have n5_ := Aside0.mk (hbox); have n6_ := Aside0.mk s_.2; clear s_; have n7_ := n6_; have l_ := blk_lt_ (g := gb145) hg (bk BK145); have n8_ := Aside0.mk (Nat.ne_of_lt l_); have n9_ := Aside0.mk (Nat.ne_of_gt l_); clear l_; have l_ := blk_lt_ (g := gb146) hg (bk BK146); have n10_ := Aside0.mk (Nat.ne_of_lt l_); have n11_ := Aside0.mk (Nat.ne_of_gt l_); clear l_; have l_ := blk_lt_ (g := gb147) hg (bk BK147); have n12_ := Aside0.mk (Nat.ne_of_lt l_); have n13_ := Aside0.mk (Nat.ne_of_gt l_); clear l_; have l_ := blk_lt_ (g := gb148) hg (bk BK148); have n14_ := Aside0.mk (Nat.ne_of_lt l_); have n15_ := Aside0.mk (Nat.ne_of_gt l_); clear l_; clear BK145; clear BK146; clear BK147; clear BK148; clear HB; have BK145 := n0_; have BK146 := n1_; have BK147 := n2_; have BK148 := n3_; have HB := n4_; have BK149 := n5_; have GW149 := n6_; have GE149 := n7_; have NB145_149 := n8_; have NB149_145 := n9_; have NB146_149 := n10_; have NB149_146 := n11_; have NB147_149 := n12_; have NB149_147 := n13_; have NB148_149 := n14_; have NB149_148 := n15_; clear n0_ n1_ n2_ n3_ n4_ n5_ n6_ n7_ n8_ n9_ n10_ n11_ n12_ n13_ n14_ n15_; clear hb hbox hg; have hnb37 := NB145_146.out; have hnc37 := NB146_145.out; have hnb38 := NB145_147.out; have hnc38 := NB147_145.out; have hnb39 := NB145_148.out; have hnc39 := NB148_145.out; have hnb40 := NB145_149.out; have hnc40 := NB149_145.out; obtain ⟨hcz41_0, hcz41_1, hcz41_2, hcz41_3, hcz41_4, hcz41_5, hcz41_6, hcz41_7, hcz41_8, hcz41_9, hcz41_10, hcz41_11, hcz41_12⟩ := blk_cells13 BK145.out; obtain ⟨hfz41_0, hfz41_1, hfz41_2, hfz41_3, hfz41_4, hfz41_5, hfz41_6, hfz41_7, hfz41_8, hfz41_9, hfz41_10, hfz41_11, hfz41_12⟩ := blk_frozens13 BK145.out) | ((with_reducible refine gate_callee (f := 39) rfl ?_); refine goesL_ (some 13) rfl rfl Try.func39 (by kernel_rfl) rfl #[.agg #[.int .i64 a0_0, .int .i64 a0_1, .int .i64 a0_2, .int .i64 a0_3, .int .i64 a0_4, .int .i64 a0_5, .int .i64 a0_6, .int .i64 a0_7, .int .i64 a0_8, .int .i64 a0_9, .string a0_10, .int .i64 a0_11, .slice A0_12 l0_12.length c0_12]] rfl (by (try simp only [List.map_toArray, List.map_cons, List.map_nil]); first | done | rfl | (simp only [List.length_drop, List.length_take]; rfl)) ?_; (with_reducible refine (instance_own.calls a0_0 a0_1 a0_2 a0_3 a0_4 a0_5 a0_6 a0_7 a0_8 a0_9 a0_10 a0_11 _ _ l0_12 t150 t151 t152 t153 t154 t155 t156 t157 t158 t159 t160 t161 t162 _ ?side1 ?side2 A6.out).mono ?_); (case side1 => repeat (first | exact (Kd.C_below HR0_12.out HB.out) | (with_reducible refine Kd.C_alloc ?_ _) | (with_reducible refine Kd.C_drewN ?_ _) | (with_reducible refine Kd.C_drew ?_))); (case side2 => exact HC0_12.out); rintro e w42 ⟨v163, rfl, ho0, hb⟩; refine ⟨_, rfl, ?_⟩; have n0_ := Aside0.mk (Kd.R_lower ho0 (below_size (gw_ HB))); have n1_ := Aside0.mk (blk_below (g := gb145) (bk BK145) hb); have n2_ := Aside0.mk (blk_below (g := gb146) (bk BK146) hb); have n3_ := Aside0.mk (blk_below (g := gb147) (bk BK147) hb); have n4_ := Aside0.mk (blk_below (g := gb148) (bk BK148) hb); have n5_ := Aside0.mk (blk_below (g := gb149) (bk BK149) hb); have n6_ := Aside0.mk (below_step (gw_ HB) hb); clear BK145; clear BK146; clear BK147; clear BK148; clear BK149; clear HB; have HO164 := n0_; have BK145 := n1_; have BK146 := n2_; have BK147 := n3_; have BK148 := n4_; have BK149 := n5_; have HB := n6_; clear n0_ n1_ n2_ n3_ n4_ n5_ n6_; (try clear hb); (try clear hb2); (try clear hk); (try clear hi); (try clear ho0); obtain ⟨hcz43_0, hcz43_1, hcz43_2, hcz43_3, hcz43_4, hcz43_5, hcz43_6, hcz43_7, hcz43_8, hcz43_9, hcz43_10, hcz43_11, hcz43_12⟩ := blk_cells13 BK145.out; obtain ⟨hfz43_0, hfz43_1, hfz43_2, hfz43_3, hfz43_4, hfz43_5, hfz43_6, hfz43_7, hfz43_8, hfz43_9, hfz43_10, hfz43_11, hfz43_12⟩ := blk_frozens13 BK145.out; obtain ⟨Ao44, co44, eo44⟩ := Kd.R_slice HO164.out; subst eo44; have hnb45 := NB146_147.out; have hnc45 := NB147_146.out; have hnb46 := NB146_148.out; have hnc46 := NB148_146.out; have hnb47 := NB146_149.out; have hnc47 := NB149_146.out; obtain ⟨hcz48_0, hcz48_1⟩ := blk_cells2 BK146.out; obtain ⟨hfz48_0, hfz48_1⟩ := blk_frozens2 BK146.out) | ((with_reducible refine gate_callee (f := 40) rfl ?_); refine goesL_ (some 17) rfl rfl Try.func40 (by kernel_rfl) rfl #[.agg #[.int .i64 t150, .int .i64 t151, .int .i64 t152, .int .i64 t153, .int .i64 t154, .int .i64 t155, .int .i64 t156, .int .i64 t157, .int .i64 t158, .int .i64 t159, .string t160, .int .i64 t161, .slice Ao44 t162.length co44], .agg #[.int .i64 a2_0, .int .i64 a2_1]] rfl (by (try simp only [List.map_toArray, List.map_cons, List.map_nil]); first | done | rfl | (simp only [List.length_drop, List.length_take]; rfl)) ?_; (with_reducible refine (instance_late.calls k t150 t151 t152 t153 t154 t155 t156 t157 t158 t159 t160 t161 _ _ t162 a2_0 a2_1 false _ ?side1 ?side2 A7.out).mono ?_); (case side1 => refine (Kd.R_reads' (e := 3) (base := w.heap.size) (ok := fun k_ => True) (n := t162.length) (c := co44) ?_).2.2; exact (by (with_reducible repeat (first | apply Kd.R_alloc | apply Kd.R_drewN | apply Kd.R_drew)); exact (Kd.R_mono (Kd.R_far13 (g := gb145) (Kd.R_types HO164.out BK145.out (by decide)) (fun _ hk => hk.2)) (fun _ h_ => h_.1)))); (case side2 => exact (Kd.R_reads' HO164.out).2.1); rintro e w49 ⟨rfl, hb⟩; refine ⟨_, rfl, ?_⟩; have n0_ := Aside0.mk (Kd.R_below (by (with_reducible repeat (first | apply Kd.R_alloc | apply Kd.R_drewN | apply Kd.R_drew)); exact (Kd.R_mono (Kd.R_far13 (g := gb145) (Kd.R_types HO164.out BK145.out (by decide)) (fun _ hk => hk.2)) (fun _ h_ => h_.1))) hb); have n1_ := Aside0.mk (blk_below (g := gb145) (o := .cells #[.int .i64 t150, .int .i64 t151, .int .i64 t152, .int .i64 t153, .int .i64 t154, .int .i64 t155, .int .i64 t156, .int .i64 t157, .int .i64 t158, .int .i64 t159, .string t160, .int .i64 t161, .slice Ao44 t162.length co44] 32 (0, 0)) (by (with_reducible repeat (first | refine blk_drewN ?_ _ | refine blk_drew ?_ | refine blk_alloc ?_ _)); refine blk_put13 (cs := #[.int .i64 a0_0, .int .i64 a0_1, .int .i64 a0_2, .int .i64 a0_3, .int .i64 a0_4, .int .i64 a0_5, .int .i64 a0_6, .int .i64 a0_7, .int .i64 a0_8, .int .i64 a0_9, .string a0_10, .int .i64 a0_11, .slice A0_12 l0_12.length c0_12]) ?_ rfl; (with_reducible repeat (first | refine blk_drewN ?_ _ | refine blk_drew ?_ | refine blk_alloc ?_ _)); exact BK145.out) hb); have n2_ := Aside0.mk (blk_below (g := gb146) (o := .cells #[.int .i64 a2_0, .int .i64 a2_1] 25 (0, 0)) (by (with_reducible repeat (first | refine blk_drewN ?_ _ | refine blk_drew ?_ | refine blk_alloc ?_ _)); (iterate 13 (refine blk_far ?_ NB146_145.out _)); (with_reducible repeat (first | refine blk_drewN ?_ _ | refine blk_drew ?_ | refine blk_alloc ?_ _)); exact BK146.out) hb); have n3_ := Aside0.mk (blk_below (g := gb147) (o := .cells #[.int .i64 a3_0, .int .i64 a3_1, .int .i64 a3_2, .int .i64 a3_3, .int .i64 a3_4, .string a3_5] 27 (0, 0)) (by (with_reducible repeat (first | refine blk_drewN ?_ _ | refine blk_drew ?_ | refine blk_alloc ?_ _)); (iterate 13 (refine blk_far ?_ NB147_145.out _)); (with_reducible repeat (first | refine blk_drewN ?_ _ | refine blk_drew ?_ | refine blk_alloc ?_ _)); exact BK147.out) hb); have n4_ := Aside0.mk (blk_below (g := gb148) (o := .cells #[.int .i64 a4_0, .slice A4_1 l4_1.length c4_1] 30 (0, 0)) (by (with_reducible repeat (first | refine blk_drewN ?_ _ | refine blk_drew ?_ | refine blk_alloc ?_ _)); (iterate 13 (refine blk_far ?_ NB148_145.out _)); (with_reducible repeat (first | refine blk_drewN ?_ _ | refine blk_drew ?_ | refine blk_alloc ?_ _)); exact BK148.out) hb); have n5_ := Aside0.mk (blk_below (g := gb149) (o := .cells #[.int .i64 0, .int .i64 0, .int .i64 0, .int .i64 0, .int .i64 0, .int .i64 0, .int .i64 0, .int .i64 0, .int .i64 0, .int .i64 0, .string (⟨#[]⟩ : ByteArray), .int .i64 0, .slice none 0 0] 32 (0, 0)) (by (with_reducible repeat (first | refine blk_drewN ?_ _ | refine blk_drew ?_ | refine blk_alloc ?_ _)); (iterate 13 (refine blk_far ?_ NB149_145.out _)); (with_reducible repeat (first | refine blk_drewN ?_ _ | refine blk_drew ?_ | refine blk_alloc ?_ _)); exact BK149.out) hb); have n6_ := Aside0.mk (below_step (gw_ HB) hb); clear HO164; clear BK145; clear BK146; clear BK147; clear BK148; clear BK149; clear HB; have HO164 := n0_; have BK145 := n1_; have BK146 := n2_; have BK147 := n3_; have BK148 := n4_; have BK149 := n5_; have HB := n6_; clear n0_ n1_ n2_ n3_ n4_ n5_ n6_; (try clear hb); (try clear hb2); (try clear hk); (try clear hi)))
  (try simp only [Act.put, List.setIfInBounds_toArray, List.set_cons_zero, List.set_cons_succ])
  go_cut [19] (fun v19 wc => ∃ (kq : Nat) (x19_30 : Bool), v19 = .bool x19_30 ∧ Aside0 (instance_vote.j0 kq a1 x19_30 t150 t151 t152 t153 t154 t155 t156 t157 t158 t159 t160 t161 t162 a2_0 a2_1 a3_0 a3_1 a3_2 a3_3 a3_4 a3_5 a4_0 l4_1 = some (r1, r2, r3, r4, r5, r6, r7, r8, r9, r10, r11, r12, r13, r14)) ∧ Aside0 (kq ≤ k) ∧ Aside0 (Kd.R (Kd.int .i64) 3 wc w.heap.size (fun _ => True) (.slice Ao44 t162.length co44) t162) ∧ Aside0 (wc.heap[gb145]? = some (.cells #[.int .i64 t150, .int .i64 t151, .int .i64 t152, .int .i64 t153, .int .i64 t154, .int .i64 t155, .int .i64 t156, .int .i64 t157, .int .i64 t158, .int .i64 t159, .string t160, .int .i64 t161, (.slice Ao44 t162.length co44)] 32 (0, 0))) ∧ Aside0 (wc.heap[gb146]? = some (.cells #[.int .i64 a2_0, .int .i64 a2_1] 25 (0, 0))) ∧ Aside0 (wc.heap[gb147]? = some (.cells #[.int .i64 a3_0, .int .i64 a3_1, .int .i64 a3_2, .int .i64 a3_3, .int .i64 a3_4, .string a3_5] 27 (0, 0))) ∧ Aside0 (wc.heap[gb148]? = some (.cells #[.int .i64 a4_0, (.slice A4_1 l4_1.length c4_1)] 30 (0, 0))) ∧ Aside0 (wc.heap[gb149]? = some (.cells #[.int .i64 0, .int .i64 0, .int .i64 0, .int .i64 0, .int .i64 0, .int .i64 0, .int .i64 0, .int .i64 0, .int .i64 0, .int .i64 0, .string (⟨#[]⟩ : ByteArray), .int .i64 0, (.slice none 0 0)] 32 (0, 0))) ∧ Aside0 (Below w.heap.size w wc))
  case first =>
   have H := HC31.out
   clear HC31
   by_cases c50 : (t153 == a2_0 && (t154 == a2_1)) = true
   ·
    rw [if_pos c50] at H
    have c50b0 : (t153 == a2_0 && (t154 == a2_1)) = true := c50
    (try (have c50b1 : decide (t153 = a2_0 && (t154 == a2_1)) = true := by simpa using c50))
    (try (have c50b2 : (t153 == a2_0 && (t154 == a2_1)) = true := by simpa using c50))
    clear c50
    (first | rw [c50b0] | (simp only [i64_w, i32_w]; rw [c50b0]) | skip)
    have H' := Aside0.mk H
    clear H
    have hnb51 := NB145_146.out
    have hnc51 := NB146_145.out
    have hnb52 := NB145_147.out
    have hnc52 := NB147_145.out
    have hnb53 := NB145_148.out
    have hnc53 := NB148_145.out
    have hnb54 := NB145_149.out
    have hnc54 := NB149_145.out
    obtain ⟨hcz55_0, hcz55_1, hcz55_2, hcz55_3, hcz55_4, hcz55_5, hcz55_6, hcz55_7, hcz55_8, hcz55_9, hcz55_10, hcz55_11, hcz55_12⟩ := blk_cells13 BK145.out
    obtain ⟨hfz55_0, hfz55_1, hfz55_2, hfz55_3, hfz55_4, hfz55_5, hfz55_6, hfz55_7, hfz55_8, hfz55_9, hfz55_10, hfz55_11, hfz55_12⟩ := blk_frozens13 BK145.out
    have hnb56 := NB146_147.out
    have hnc56 := NB147_146.out
    have hnb57 := NB146_148.out
    have hnc57 := NB148_146.out
    have hnb58 := NB146_149.out
    have hnc58 := NB149_146.out
    obtain ⟨hcz59_0, hcz59_1⟩ := blk_cells2 BK146.out
    obtain ⟨hfz59_0, hfz59_1⟩ := blk_frozens2 BK146.out
    go_wp2
    go_meet
    case rel => exact ⟨_, ((t150 == a1)), (by first | rfl | (simp; done) | (simp [*]; done)), H', ⟨by first | omega | exact Nat.le_refl _⟩, ⟨by (with_reducible repeat (first | apply Kd.R_alloc | apply Kd.R_drewN | apply Kd.R_drew)); exact HO164.out⟩, ⟨by (with_reducible repeat (first | refine blk_drewN ?_ _ | refine blk_drew ?_ | refine blk_alloc ?_ _)); exact BK145.out⟩, ⟨by (with_reducible repeat (first | refine blk_drewN ?_ _ | refine blk_drew ?_ | refine blk_alloc ?_ _)); exact BK146.out⟩, ⟨by (with_reducible repeat (first | refine blk_drewN ?_ _ | refine blk_drew ?_ | refine blk_alloc ?_ _)); exact BK147.out⟩, ⟨by (with_reducible repeat (first | refine blk_drewN ?_ _ | refine blk_drew ?_ | refine blk_alloc ?_ _)); exact BK148.out⟩, ⟨by (with_reducible repeat (first | refine blk_drewN ?_ _ | refine blk_drew ?_ | refine blk_alloc ?_ _)); exact BK149.out⟩, ⟨gw_ HB⟩⟩
   ·
    rw [if_neg c50] at H
    have c50b0 : (t153 == a2_0 && (t154 == a2_1)) = false := by simpa using c50
    (try (have c50b1 : decide (t153 = a2_0 && (t154 == a2_1)) = false := by simpa using c50))
    (try (have c50b2 : (t153 == a2_0 && (t154 == a2_1)) = false := by simpa using c50))
    (try (have c50b3 : ¬ (t153 = a2_0 && (t154 == a2_1)) := by simpa using c50))
    clear c50
    (first | rw [c50b0] | (simp only [i64_w, i32_w]; rw [c50b0]) | skip)
    have H' := Aside0.mk H
    clear H
    have hnb60 := NB145_146.out
    have hnc60 := NB146_145.out
    have hnb61 := NB145_147.out
    have hnc61 := NB147_145.out
    have hnb62 := NB145_148.out
    have hnc62 := NB148_145.out
    have hnb63 := NB145_149.out
    have hnc63 := NB149_145.out
    obtain ⟨hcz64_0, hcz64_1, hcz64_2, hcz64_3, hcz64_4, hcz64_5, hcz64_6, hcz64_7, hcz64_8, hcz64_9, hcz64_10, hcz64_11, hcz64_12⟩ := blk_cells13 BK145.out
    obtain ⟨hfz64_0, hfz64_1, hfz64_2, hfz64_3, hfz64_4, hfz64_5, hfz64_6, hfz64_7, hfz64_8, hfz64_9, hfz64_10, hfz64_11, hfz64_12⟩ := blk_frozens13 BK145.out
    have hnb65 := NB146_147.out
    have hnc65 := NB147_146.out
    have hnb66 := NB146_148.out
    have hnc66 := NB148_146.out
    have hnb67 := NB146_149.out
    have hnc67 := NB149_146.out
    obtain ⟨hcz68_0, hcz68_1⟩ := blk_cells2 BK146.out
    obtain ⟨hfz68_0, hfz68_1⟩ := blk_frozens2 BK146.out
    go_wp2
    go_meet
    case rel => exact ⟨_, (false), (by first | rfl | (simp; done) | (simp [*]; done)), H', ⟨by first | omega | exact Nat.le_refl _⟩, ⟨by (with_reducible repeat (first | apply Kd.R_alloc | apply Kd.R_drewN | apply Kd.R_drew)); exact HO164.out⟩, ⟨by (with_reducible repeat (first | refine blk_drewN ?_ _ | refine blk_drew ?_ | refine blk_alloc ?_ _)); exact BK145.out⟩, ⟨by (with_reducible repeat (first | refine blk_drewN ?_ _ | refine blk_drew ?_ | refine blk_alloc ?_ _)); exact BK146.out⟩, ⟨by (with_reducible repeat (first | refine blk_drewN ?_ _ | refine blk_drew ?_ | refine blk_alloc ?_ _)); exact BK147.out⟩, ⟨by (with_reducible repeat (first | refine blk_drewN ?_ _ | refine blk_drew ?_ | refine blk_alloc ?_ _)); exact BK148.out⟩, ⟨by (with_reducible repeat (first | refine blk_drewN ?_ _ | refine blk_drew ?_ | refine blk_alloc ?_ _)); exact BK149.out⟩, ⟨gw_ HB⟩⟩
  case rest =>
   clear HC31
   try clear c1
   try clear c2
   try clear p2
   try clear c3
   try clear c4
   try clear c5
   try clear c6
   try clear c8
   try clear c14
   try clear c15
   try clear c16
   try clear c17
   try clear c22
   try clear c23
   try clear c24
   try clear c28
   try clear c29
   try clear c37
   try clear c38
   try clear c39
   try clear c40
   try clear c41
   try clear c45
   try clear c46
   try clear c47
   try clear c50
   try clear c50b0
   try clear c50b1
   try clear c50b2
   try clear c51
   try clear c52
   try clear c53
   try clear c54
   try clear c56
   try clear c57
   try clear c58
   try clear c60
   try clear c61
   try clear c62
   try clear c63
   try clear c65
   try clear c66
   try clear c67
   try clear hcz18_0
   try clear hcz18_1
   try clear hcz18_10
   try clear hcz18_11
   try clear hcz18_12
   try clear hcz18_2
   try clear hcz18_3
   try clear hcz18_4
   try clear hcz18_5
   try clear hcz18_6
   try clear hcz18_7
   try clear hcz18_8
   try clear hcz18_9
   try clear hcz20_0
   try clear hcz20_1
   try clear hcz20_10
   try clear hcz20_11
   try clear hcz20_12
   try clear hcz20_2
   try clear hcz20_3
   try clear hcz20_4
   try clear hcz20_5
   try clear hcz20_6
   try clear hcz20_7
   try clear hcz20_8
   try clear hcz20_9
   try clear hcz25_0
   try clear hcz25_1
   try clear hcz27_0
   try clear hcz27_1
   try clear hcz27_10
   try clear hcz27_11
   try clear hcz27_12
   try clear hcz27_2
   try clear hcz27_3
   try clear hcz27_4
   try clear hcz27_5
   try clear hcz27_6
   try clear hcz27_7
   try clear hcz27_8
   try clear hcz27_9
   try clear hcz30_0
   try clear hcz30_1
   try clear hcz30_10
   try clear hcz30_11
   try clear hcz30_12
   try clear hcz30_2
   try clear hcz30_3
   try clear hcz30_4
   try clear hcz30_5
   try clear hcz30_6
   try clear hcz30_7
   try clear hcz30_8
   try clear hcz30_9
   try clear hcz41_0
   try clear hcz41_1
   try clear hcz41_10
   try clear hcz41_11
   try clear hcz41_12
   try clear hcz41_2
   try clear hcz41_3
   try clear hcz41_4
   try clear hcz41_5
   try clear hcz41_6
   try clear hcz41_7
   try clear hcz41_8
   try clear hcz41_9
   try clear hcz43_0
   try clear hcz43_1
   try clear hcz43_10
   try clear hcz43_11
   try clear hcz43_12
   try clear hcz43_2
   try clear hcz43_3
   try clear hcz43_4
   try clear hcz43_5
   try clear hcz43_6
   try clear hcz43_7
   try clear hcz43_8
   try clear hcz43_9
   try clear hcz48_0
   try clear hcz48_1
   try clear hcz55_0
   try clear hcz55_1
   try clear hcz55_10
   try clear hcz55_11
   try clear hcz55_12
   try clear hcz55_2
   try clear hcz55_3
   try clear hcz55_4
   try clear hcz55_5
   try clear hcz55_6
   try clear hcz55_7
   try clear hcz55_8
   try clear hcz55_9
   try clear hcz59_0
   try clear hcz59_1
   try clear hcz64_0
   try clear hcz64_1
   try clear hcz64_10
   try clear hcz64_11
   try clear hcz64_12
   try clear hcz64_2
   try clear hcz64_3
   try clear hcz64_4
   try clear hcz64_5
   try clear hcz64_6
   try clear hcz64_7
   try clear hcz64_8
   try clear hcz64_9
   try clear hcz68_0
   try clear hcz68_1
   try clear hfz18_0
   try clear hfz18_1
   try clear hfz18_10
   try clear hfz18_11
   try clear hfz18_12
   try clear hfz18_2
   try clear hfz18_3
   try clear hfz18_4
   try clear hfz18_5
   try clear hfz18_6
   try clear hfz18_7
   try clear hfz18_8
   try clear hfz18_9
   try clear hfz20_0
   try clear hfz20_1
   try clear hfz20_10
   try clear hfz20_11
   try clear hfz20_12
   try clear hfz20_2
   try clear hfz20_3
   try clear hfz20_4
   try clear hfz20_5
   try clear hfz20_6
   try clear hfz20_7
   try clear hfz20_8
   try clear hfz20_9
   try clear hfz25_0
   try clear hfz25_1
   try clear hfz27_0
   try clear hfz27_1
   try clear hfz27_10
   try clear hfz27_11
   try clear hfz27_12
   try clear hfz27_2
   try clear hfz27_3
   try clear hfz27_4
   try clear hfz27_5
   try clear hfz27_6
   try clear hfz27_7
   try clear hfz27_8
   try clear hfz27_9
   try clear hfz30_0
   try clear hfz30_1
   try clear hfz30_10
   try clear hfz30_11
   try clear hfz30_12
   try clear hfz30_2
   try clear hfz30_3
   try clear hfz30_4
   try clear hfz30_5
   try clear hfz30_6
   try clear hfz30_7
   try clear hfz30_8
   try clear hfz30_9
   try clear hfz41_0
   try clear hfz41_1
   try clear hfz41_10
   try clear hfz41_11
   try clear hfz41_12
   try clear hfz41_2
   try clear hfz41_3
   try clear hfz41_4
   try clear hfz41_5
   try clear hfz41_6
   try clear hfz41_7
   try clear hfz41_8
   try clear hfz41_9
   try clear hfz43_0
   try clear hfz43_1
   try clear hfz43_10
   try clear hfz43_11
   try clear hfz43_12
   try clear hfz43_2
   try clear hfz43_3
   try clear hfz43_4
   try clear hfz43_5
   try clear hfz43_6
   try clear hfz43_7
   try clear hfz43_8
   try clear hfz43_9
   try clear hfz48_0
   try clear hfz48_1
   try clear hfz55_0
   try clear hfz55_1
   try clear hfz55_10
   try clear hfz55_11
   try clear hfz55_12
   try clear hfz55_2
   try clear hfz55_3
   try clear hfz55_4
   try clear hfz55_5
   try clear hfz55_6
   try clear hfz55_7
   try clear hfz55_8
   try clear hfz55_9
   try clear hfz59_0
   try clear hfz59_1
   try clear hfz64_0
   try clear hfz64_1
   try clear hfz64_10
   try clear hfz64_11
   try clear hfz64_12
   try clear hfz64_2
   try clear hfz64_3
   try clear hfz64_4
   try clear hfz64_5
   try clear hfz64_6
   try clear hfz64_7
   try clear hfz64_8
   try clear hfz64_9
   try clear hfz68_0
   try clear hfz68_1
   obtain ⟨kq, x19_30, rfl, HA, HJ30, HO_146012, BK145, BK146, BK147, BK148, BK149, HB⟩ := hcut
   cases kq with
   | zero => exact absurd HA.out (by simp [instance_vote.j0])
   | succ kj30 =>
    have H := HA.out
    clear HA
    simp only [instance_vote.j0] at H
    by_cases c69 : x19_30 = true
    ·
     subst c69
     have H1 : (some (t150, t151, t152, t153, t154, t155, t156, t157, t158, t159, t160, t161, t162, true)) = some (r1, r2, r3, r4, r5, r6, r7, r8, r9, r10, r11, r12, r13, r14) := by rw [if_pos rfl] at H; exact H
     clear H
     have H := H1
     clear H1
     simp only [Option.some.injEq, Prod.mk.injEq] at H
     obtain ⟨rfl, rfl, rfl, rfl, rfl, rfl, rfl, rfl, rfl, rfl, rfl, rfl, rfl, rfl⟩ := H
     have hnb70 := NB145_146.out
     have hnc70 := NB146_145.out
     have hnb71 := NB145_147.out
     have hnc71 := NB147_145.out
     have hnb72 := NB145_148.out
     have hnc72 := NB148_145.out
     have hnb73 := NB145_149.out
     have hnc73 := NB149_145.out
     obtain ⟨hcz74_0, hcz74_1, hcz74_2, hcz74_3, hcz74_4, hcz74_5, hcz74_6, hcz74_7, hcz74_8, hcz74_9, hcz74_10, hcz74_11, hcz74_12⟩ := blk_cells13 BK145.out
     obtain ⟨hfz74_0, hfz74_1, hfz74_2, hfz74_3, hfz74_4, hfz74_5, hfz74_6, hfz74_7, hfz74_8, hfz74_9, hfz74_10, hfz74_11, hfz74_12⟩ := blk_frozens13 BK145.out
     have hnb75 := NB149_146.out
     have hnc75 := NB146_149.out
     have hnb76 := NB149_147.out
     have hnc76 := NB147_149.out
     have hnb77 := NB149_148.out
     have hnc77 := NB148_149.out
     obtain ⟨hcz78_0, hcz78_1, hcz78_2, hcz78_3, hcz78_4, hcz78_5, hcz78_6, hcz78_7, hcz78_8, hcz78_9, hcz78_10, hcz78_11, hcz78_12⟩ := blk_cells13 BK149.out
     obtain ⟨hfz78_0, hfz78_1, hfz78_2, hfz78_3, hfz78_4, hfz78_5, hfz78_6, hfz78_7, hfz78_8, hfz78_9, hfz78_10, hfz78_11, hfz78_12⟩ := blk_frozens13 BK149.out
     go_wp2
     refine bodyPost_ret (results_ct rfl _ _ gb149 32 #[.int .i64 t150, .int .i64 t151, .int .i64 t152, .int .i64 t153, .int .i64 t154, .int .i64 t155, .int .i64 t156, .int .i64 t157, .int .i64 t158, .int .i64 t159, .string t160, .int .i64 t161, .slice Ao44 t162.length co44] (0, 0) _ rfl (by (with_reducible repeat (first | refine blk_drewN ?_ _ | refine blk_drew ?_ | refine blk_alloc ?_ _)); refine blk_put13 (cs := #[.int .i64 0, .int .i64 0, .int .i64 0, .int .i64 0, .int .i64 0, .int .i64 0, .int .i64 0, .int .i64 0, .int .i64 0, .int .i64 0, .string (⟨#[]⟩ : ByteArray), .int .i64 0, .slice none 0 0]) ?_ rfl; (with_reducible repeat (first | refine blk_drewN ?_ _ | refine blk_drew ?_ | refine blk_alloc ?_ _)); exact BK149.out) Try.underlying32 rfl (by kernel_rfl)) rfl ?_
     exact ⟨_, by first | rfl | (simp [errW_none, errW_some] <;> rfl) | (simp [*, errW_none, errW_some] <;> rfl), by (with_reducible repeat (first | apply Kd.R_alloc | apply Kd.R_drewN | apply Kd.R_drew)); exact Kd.R_mono (Kd.R_far13 (g := gb149) (Kd.R_types HO_146012.out BK149.out (by decide)) (fun _ hk => hk.2)) (fun _ hk => trivial), gw_ HB⟩
    ·
     replace c69 := Bool.eq_false_iff.mpr c69
     subst c69
     have H1 : (if (t153 == a2_0 && (t154 == a2_1)) = true then (if t150 = 2 then (if a1 = 1 then (some (t150, t151, t152, t153, t154, t155, t156, t157, t158, t159, t160, t161, t162, false)) else ((instance_own.f a1 a2_0 a2_1 a2_0 a2_1 a3_0 a3_1 a3_2 a3_3 a3_4 a3_5 a4_0 l4_1).bind fun bt166 => (some (bt166.1, bt166.2.1, bt166.2.2.1, bt166.2.2.2.1, bt166.2.2.2.2.1, bt166.2.2.2.2.2.1, bt166.2.2.2.2.2.2.1, bt166.2.2.2.2.2.2.2.1, bt166.2.2.2.2.2.2.2.2.1, bt166.2.2.2.2.2.2.2.2.2.1, bt166.2.2.2.2.2.2.2.2.2.2.1, bt166.2.2.2.2.2.2.2.2.2.2.2.1, bt166.2.2.2.2.2.2.2.2.2.2.2.2, true)))) else ((instance_own.f a1 a2_0 a2_1 a2_0 a2_1 a3_0 a3_1 a3_2 a3_3 a3_4 a3_5 a4_0 l4_1).bind fun bt181 => (some (bt181.1, bt181.2.1, bt181.2.2.1, bt181.2.2.2.1, bt181.2.2.2.2.1, bt181.2.2.2.2.2.1, bt181.2.2.2.2.2.2.1, bt181.2.2.2.2.2.2.2.1, bt181.2.2.2.2.2.2.2.2.1, bt181.2.2.2.2.2.2.2.2.2.1, bt181.2.2.2.2.2.2.2.2.2.2.1, bt181.2.2.2.2.2.2.2.2.2.2.2.1, bt181.2.2.2.2.2.2.2.2.2.2.2.2, true)))) else ((instance_own.f a1 a2_0 a2_1 a2_0 a2_1 a3_0 a3_1 a3_2 a3_3 a3_4 a3_5 a4_0 l4_1).bind fun bt196 => (some (bt196.1, bt196.2.1, bt196.2.2.1, bt196.2.2.2.1, bt196.2.2.2.2.1, bt196.2.2.2.2.2.1, bt196.2.2.2.2.2.2.1, bt196.2.2.2.2.2.2.2.1, bt196.2.2.2.2.2.2.2.2.1, bt196.2.2.2.2.2.2.2.2.2.1, bt196.2.2.2.2.2.2.2.2.2.2.1, bt196.2.2.2.2.2.2.2.2.2.2.2.1, bt196.2.2.2.2.2.2.2.2.2.2.2.2, true)))) = some (r1, r2, r3, r4, r5, r6, r7, r8, r9, r10, r11, r12, r13, r14) := by rw [if_neg (show ¬ (false = true) by decide)] at H; exact H
     clear H
     have H := H1
     clear H1
     by_cases c79 : (t153 == a2_0 && (t154 == a2_1)) = true
     ·
      rw [if_pos c79] at H
      have c79b0 : (t153 == a2_0 && (t154 == a2_1)) = true := c79
      (try (have c79b1 : decide (t153 = a2_0 && (t154 == a2_1)) = true := by simpa using c79))
      (try (have c79b2 : (t153 == a2_0 && (t154 == a2_1)) = true := by simpa using c79))
      clear c79
      by_cases c80 : t150 = 2
      ·
       rw [if_pos c80] at H
       have c80b0 : (t150 == 2) = true := beq_iff_eq.mpr c80
       have c80b1 : (t150 != 2) = false := bne_eq_false_iff_eq.mpr c80
       clear c80
       by_cases c81 : a1 = 1
       ·
        rw [if_pos c81] at H
        have c81b0 : (a1 == 1) = true := beq_iff_eq.mpr c81
        have c81b1 : (a1 != 1) = false := bne_eq_false_iff_eq.mpr c81
        clear c81
        simp only [Option.some.injEq, Prod.mk.injEq] at H
        obtain ⟨rfl, rfl, rfl, rfl, rfl, rfl, rfl, rfl, rfl, rfl, rfl, rfl, rfl, rfl⟩ := H
        have hnb82 := NB145_146.out
        have hnc82 := NB146_145.out
        have hnb83 := NB145_147.out
        have hnc83 := NB147_145.out
        have hnb84 := NB145_148.out
        have hnc84 := NB148_145.out
        have hnb85 := NB145_149.out
        have hnc85 := NB149_145.out
        obtain ⟨hcz86_0, hcz86_1, hcz86_2, hcz86_3, hcz86_4, hcz86_5, hcz86_6, hcz86_7, hcz86_8, hcz86_9, hcz86_10, hcz86_11, hcz86_12⟩ := blk_cells13 BK145.out
        obtain ⟨hfz86_0, hfz86_1, hfz86_2, hfz86_3, hfz86_4, hfz86_5, hfz86_6, hfz86_7, hfz86_8, hfz86_9, hfz86_10, hfz86_11, hfz86_12⟩ := blk_frozens13 BK145.out
        have hnb87 := NB146_147.out
        have hnc87 := NB147_146.out
        have hnb88 := NB146_148.out
        have hnc88 := NB148_146.out
        have hnb89 := NB146_149.out
        have hnc89 := NB149_146.out
        obtain ⟨hcz90_0, hcz90_1⟩ := blk_cells2 BK146.out
        obtain ⟨hfz90_0, hfz90_1⟩ := blk_frozens2 BK146.out
        have hnb91 := NB149_147.out
        have hnc91 := NB147_149.out
        have hnb92 := NB149_148.out
        have hnc92 := NB148_149.out
        obtain ⟨hcz93_0, hcz93_1, hcz93_2, hcz93_3, hcz93_4, hcz93_5, hcz93_6, hcz93_7, hcz93_8, hcz93_9, hcz93_10, hcz93_11, hcz93_12⟩ := blk_cells13 BK149.out
        obtain ⟨hfz93_0, hfz93_1, hfz93_2, hfz93_3, hfz93_4, hfz93_5, hfz93_6, hfz93_7, hfz93_8, hfz93_9, hfz93_10, hfz93_11, hfz93_12⟩ := blk_frozens13 BK149.out
        go_wp2
        refine bodyPost_ret (results_ct rfl _ _ gb149 32 #[.int .i64 t150, .int .i64 t151, .int .i64 t152, .int .i64 t153, .int .i64 t154, .int .i64 t155, .int .i64 t156, .int .i64 t157, .int .i64 t158, .int .i64 t159, .string t160, .int .i64 t161, .slice Ao44 t162.length co44] (0, 0) _ rfl (by (with_reducible repeat (first | refine blk_drewN ?_ _ | refine blk_drew ?_ | refine blk_alloc ?_ _)); refine blk_put13 (cs := #[.int .i64 0, .int .i64 0, .int .i64 0, .int .i64 0, .int .i64 0, .int .i64 0, .int .i64 0, .int .i64 0, .int .i64 0, .int .i64 0, .string (⟨#[]⟩ : ByteArray), .int .i64 0, .slice none 0 0]) ?_ rfl; (with_reducible repeat (first | refine blk_drewN ?_ _ | refine blk_drew ?_ | refine blk_alloc ?_ _)); exact BK149.out) Try.underlying32 rfl (by kernel_rfl)) rfl ?_
        exact ⟨_, by first | rfl | (simp [errW_none, errW_some] <;> rfl) | (simp [*, errW_none, errW_some] <;> rfl), by (with_reducible repeat (first | apply Kd.R_alloc | apply Kd.R_drewN | apply Kd.R_drew)); exact Kd.R_mono (Kd.R_far13 (g := gb149) (Kd.R_types HO_146012.out BK149.out (by decide)) (fun _ hk => hk.2)) (fun _ hk => trivial), gw_ HB⟩
       ·
        rw [if_neg c81] at H
        have c81b0 : (a1 == 1) = false := beq_eq_false_iff_ne.mpr c81
        have c81b1 : (a1 != 1) = true := bne_iff_ne.mpr c81
        replace H := Option.bind_eq_some_iff.mp H
        obtain ⟨⟨t166, t167, t168, t169, t170, t171, t172, t173, t174, t175, t176, t177, t178⟩, A940, H⟩ := H
        replace H : (some (t166, t167, t168, t169, t170, t171, t172, t173, t174, t175, t176, t177, t178, true)) = some (r1, r2, r3, r4, r5, r6, r7, r8, r9, r10, r11, r12, r13, r14) := H
        have A94 := Aside0.mk A940
        clear A940
        simp only [Option.some.injEq, Prod.mk.injEq] at H
        obtain ⟨rfl, rfl, rfl, rfl, rfl, rfl, rfl, rfl, rfl, rfl, rfl, rfl, rfl, rfl⟩ := H
        have hnb95 := NB145_146.out
        have hnc95 := NB146_145.out
        have hnb96 := NB145_147.out
        have hnc96 := NB147_145.out
        have hnb97 := NB145_148.out
        have hnc97 := NB148_145.out
        have hnb98 := NB145_149.out
        have hnc98 := NB149_145.out
        obtain ⟨hcz99_0, hcz99_1, hcz99_2, hcz99_3, hcz99_4, hcz99_5, hcz99_6, hcz99_7, hcz99_8, hcz99_9, hcz99_10, hcz99_11, hcz99_12⟩ := blk_cells13 BK145.out
        obtain ⟨hfz99_0, hfz99_1, hfz99_2, hfz99_3, hfz99_4, hfz99_5, hfz99_6, hfz99_7, hfz99_8, hfz99_9, hfz99_10, hfz99_11, hfz99_12⟩ := blk_frozens13 BK145.out
        have hnb100 := NB146_147.out
        have hnc100 := NB147_146.out
        have hnb101 := NB146_148.out
        have hnc101 := NB148_146.out
        have hnb102 := NB146_149.out
        have hnc102 := NB149_146.out
        obtain ⟨hcz103_0, hcz103_1⟩ := blk_cells2 BK146.out
        obtain ⟨hfz103_0, hfz103_1⟩ := blk_frozens2 BK146.out
        have hnb104 := NB147_148.out
        have hnc104 := NB148_147.out
        have hnb105 := NB147_149.out
        have hnc105 := NB149_147.out
        obtain ⟨hcz106_0, hcz106_1, hcz106_2, hcz106_3, hcz106_4, hcz106_5⟩ := blk_cells6 BK147.out
        obtain ⟨hfz106_0, hfz106_1, hfz106_2, hfz106_3, hfz106_4, hfz106_5⟩ := blk_frozens6 BK147.out
        have hnb107 := NB148_149.out
        have hnc107 := NB149_148.out
        obtain ⟨hcz108_0, hcz108_1⟩ := blk_cells2 BK148.out
        obtain ⟨hfz108_0, hfz108_1⟩ := blk_frozens2 BK148.out
        go_wp2_with (first | ((with_reducible refine gate_callee (f := 39) rfl ?_); refine goesL_ (some 52) rfl rfl Try.func39 (by kernel_rfl) rfl #[.agg #[.int .i64 a1, .int .i64 a2_0, .int .i64 a2_1, .int .i64 a2_0, .int .i64 a2_1, .int .i64 a3_0, .int .i64 a3_1, .int .i64 a3_2, .int .i64 a3_3, .int .i64 a3_4, .string a3_5, .int .i64 a4_0, .slice A4_1 l4_1.length c4_1]] rfl (by (try simp only [List.map_toArray, List.map_cons, List.map_nil]); first | done | rfl | (simp only [List.length_drop, List.length_take]; rfl)) ?_; (with_reducible refine (instance_own.calls a1 a2_0 a2_1 a2_0 a2_1 a3_0 a3_1 a3_2 a3_3 a3_4 a3_5 a4_0 _ _ l4_1 t166 t167 t168 t169 t170 t171 t172 t173 t174 t175 t176 t177 t178 _ ?side1 ?side2 A94.out).mono ?_); (case side1 => repeat (first | exact (Kd.C_below HR4_1.out HB.out) | (with_reducible refine Kd.C_alloc ?_ _) | (with_reducible refine Kd.C_drewN ?_ _) | (with_reducible refine Kd.C_drew ?_))); (case side2 => exact HC4_1.out); rintro e w109 ⟨v179, rfl, ho0, hb⟩; refine ⟨_, rfl, ?_⟩; have n0_ := Aside0.mk (Kd.R_elder' (Kd.rk HO_146012) (Kd.R_base ho0) hb); have n1_ := Aside0.mk (Kd.R_lower (Kd.R_new' ho0 (Kd.R_lt (Kd.rk HO_146012))) (below_size (gw_ HB))); have n2_ := Aside0.mk (blk_below (g := gb145) (bk BK145) hb); have n3_ := Aside0.mk (blk_below (g := gb146) (bk BK146) hb); have n4_ := Aside0.mk (blk_below (g := gb147) (bk BK147) hb); have n5_ := Aside0.mk (blk_below (g := gb148) (bk BK148) hb); have n6_ := Aside0.mk (blk_below (g := gb149) (bk BK149) hb); have n7_ := Aside0.mk (below_step (gw_ HB) hb); clear HO_146012; clear BK145; clear BK146; clear BK147; clear BK148; clear BK149; clear HB; have HO_146012 := n0_; have HO180 := n1_; have BK145 := n2_; have BK146 := n3_; have BK147 := n4_; have BK148 := n5_; have BK149 := n6_; have HB := n7_; clear n0_ n1_ n2_ n3_ n4_ n5_ n6_ n7_; (try clear hb); (try clear hb2); (try clear hk); (try clear hi); (try clear ho0); obtain ⟨hcz110_0, hcz110_1, hcz110_2, hcz110_3, hcz110_4, hcz110_5, hcz110_6, hcz110_7, hcz110_8, hcz110_9, hcz110_10, hcz110_11, hcz110_12⟩ := blk_cells13 BK149.out; obtain ⟨hfz110_0, hfz110_1, hfz110_2, hfz110_3, hfz110_4, hfz110_5, hfz110_6, hfz110_7, hfz110_8, hfz110_9, hfz110_10, hfz110_11, hfz110_12⟩ := blk_frozens13 BK149.out; obtain ⟨Ao111, co111, eo111⟩ := Kd.R_slice HO180.out; subst eo111))
        refine bodyPost_ret (results_ct rfl _ _ gb149 32 #[.int .i64 t166, .int .i64 t167, .int .i64 t168, .int .i64 t169, .int .i64 t170, .int .i64 t171, .int .i64 t172, .int .i64 t173, .int .i64 t174, .int .i64 t175, .string t176, .int .i64 t177, .slice Ao111 t178.length co111] (0, 0) _ rfl (by (with_reducible repeat (first | refine blk_drewN ?_ _ | refine blk_drew ?_ | refine blk_alloc ?_ _)); refine blk_put13 (cs := #[.int .i64 0, .int .i64 0, .int .i64 0, .int .i64 0, .int .i64 0, .int .i64 0, .int .i64 0, .int .i64 0, .int .i64 0, .int .i64 0, .string (⟨#[]⟩ : ByteArray), .int .i64 0, .slice none 0 0]) ?_ rfl; (with_reducible repeat (first | refine blk_drewN ?_ _ | refine blk_drew ?_ | refine blk_alloc ?_ _)); exact BK149.out) Try.underlying32 rfl (by kernel_rfl)) rfl ?_
        exact ⟨_, by first | rfl | (simp [errW_none, errW_some] <;> rfl) | (simp [*, errW_none, errW_some] <;> rfl), by (with_reducible repeat (first | apply Kd.R_alloc | apply Kd.R_drewN | apply Kd.R_drew)); exact Kd.R_mono (Kd.R_far13 (g := gb149) (Kd.R_types HO180.out BK149.out (by decide)) (fun _ hk => hk.2)) (fun _ hk => trivial), gw_ HB⟩
      ·
       rw [if_neg c80] at H
       have c80b0 : (t150 == 2) = false := beq_eq_false_iff_ne.mpr c80
       have c80b1 : (t150 != 2) = true := bne_iff_ne.mpr c80
       replace H := Option.bind_eq_some_iff.mp H
       obtain ⟨⟨t181, t182, t183, t184, t185, t186, t187, t188, t189, t190, t191, t192, t193⟩, A1120, H⟩ := H
       replace H : (some (t181, t182, t183, t184, t185, t186, t187, t188, t189, t190, t191, t192, t193, true)) = some (r1, r2, r3, r4, r5, r6, r7, r8, r9, r10, r11, r12, r13, r14) := H
       have A112 := Aside0.mk A1120
       clear A1120
       simp only [Option.some.injEq, Prod.mk.injEq] at H
       obtain ⟨rfl, rfl, rfl, rfl, rfl, rfl, rfl, rfl, rfl, rfl, rfl, rfl, rfl, rfl⟩ := H
       have hnb113 := NB145_146.out
       have hnc113 := NB146_145.out
       have hnb114 := NB145_147.out
       have hnc114 := NB147_145.out
       have hnb115 := NB145_148.out
       have hnc115 := NB148_145.out
       have hnb116 := NB145_149.out
       have hnc116 := NB149_145.out
       obtain ⟨hcz117_0, hcz117_1, hcz117_2, hcz117_3, hcz117_4, hcz117_5, hcz117_6, hcz117_7, hcz117_8, hcz117_9, hcz117_10, hcz117_11, hcz117_12⟩ := blk_cells13 BK145.out
       obtain ⟨hfz117_0, hfz117_1, hfz117_2, hfz117_3, hfz117_4, hfz117_5, hfz117_6, hfz117_7, hfz117_8, hfz117_9, hfz117_10, hfz117_11, hfz117_12⟩ := blk_frozens13 BK145.out
       have hnb118 := NB146_147.out
       have hnc118 := NB147_146.out
       have hnb119 := NB146_148.out
       have hnc119 := NB148_146.out
       have hnb120 := NB146_149.out
       have hnc120 := NB149_146.out
       obtain ⟨hcz121_0, hcz121_1⟩ := blk_cells2 BK146.out
       obtain ⟨hfz121_0, hfz121_1⟩ := blk_frozens2 BK146.out
       have hnb122 := NB147_148.out
       have hnc122 := NB148_147.out
       have hnb123 := NB147_149.out
       have hnc123 := NB149_147.out
       obtain ⟨hcz124_0, hcz124_1, hcz124_2, hcz124_3, hcz124_4, hcz124_5⟩ := blk_cells6 BK147.out
       obtain ⟨hfz124_0, hfz124_1, hfz124_2, hfz124_3, hfz124_4, hfz124_5⟩ := blk_frozens6 BK147.out
       have hnb125 := NB148_149.out
       have hnc125 := NB149_148.out
       obtain ⟨hcz126_0, hcz126_1⟩ := blk_cells2 BK148.out
       obtain ⟨hfz126_0, hfz126_1⟩ := blk_frozens2 BK148.out
       go_wp2_with (first | ((with_reducible refine gate_callee (f := 39) rfl ?_); refine goesL_ (some 52) rfl rfl Try.func39 (by kernel_rfl) rfl #[.agg #[.int .i64 a1, .int .i64 a2_0, .int .i64 a2_1, .int .i64 a2_0, .int .i64 a2_1, .int .i64 a3_0, .int .i64 a3_1, .int .i64 a3_2, .int .i64 a3_3, .int .i64 a3_4, .string a3_5, .int .i64 a4_0, .slice A4_1 l4_1.length c4_1]] rfl (by (try simp only [List.map_toArray, List.map_cons, List.map_nil]); first | done | rfl | (simp only [List.length_drop, List.length_take]; rfl)) ?_; (with_reducible refine (instance_own.calls a1 a2_0 a2_1 a2_0 a2_1 a3_0 a3_1 a3_2 a3_3 a3_4 a3_5 a4_0 _ _ l4_1 t181 t182 t183 t184 t185 t186 t187 t188 t189 t190 t191 t192 t193 _ ?side1 ?side2 A112.out).mono ?_); (case side1 => repeat (first | exact (Kd.C_below HR4_1.out HB.out) | (with_reducible refine Kd.C_alloc ?_ _) | (with_reducible refine Kd.C_drewN ?_ _) | (with_reducible refine Kd.C_drew ?_))); (case side2 => exact HC4_1.out); rintro e w127 ⟨v194, rfl, ho0, hb⟩; refine ⟨_, rfl, ?_⟩; have n0_ := Aside0.mk (Kd.R_elder' (Kd.rk HO_146012) (Kd.R_base ho0) hb); have n1_ := Aside0.mk (Kd.R_lower (Kd.R_new' ho0 (Kd.R_lt (Kd.rk HO_146012))) (below_size (gw_ HB))); have n2_ := Aside0.mk (blk_below (g := gb145) (bk BK145) hb); have n3_ := Aside0.mk (blk_below (g := gb146) (bk BK146) hb); have n4_ := Aside0.mk (blk_below (g := gb147) (bk BK147) hb); have n5_ := Aside0.mk (blk_below (g := gb148) (bk BK148) hb); have n6_ := Aside0.mk (blk_below (g := gb149) (bk BK149) hb); have n7_ := Aside0.mk (below_step (gw_ HB) hb); clear HO_146012; clear BK145; clear BK146; clear BK147; clear BK148; clear BK149; clear HB; have HO_146012 := n0_; have HO195 := n1_; have BK145 := n2_; have BK146 := n3_; have BK147 := n4_; have BK148 := n5_; have BK149 := n6_; have HB := n7_; clear n0_ n1_ n2_ n3_ n4_ n5_ n6_ n7_; (try clear hb); (try clear hb2); (try clear hk); (try clear hi); (try clear ho0); obtain ⟨hcz128_0, hcz128_1, hcz128_2, hcz128_3, hcz128_4, hcz128_5, hcz128_6, hcz128_7, hcz128_8, hcz128_9, hcz128_10, hcz128_11, hcz128_12⟩ := blk_cells13 BK149.out; obtain ⟨hfz128_0, hfz128_1, hfz128_2, hfz128_3, hfz128_4, hfz128_5, hfz128_6, hfz128_7, hfz128_8, hfz128_9, hfz128_10, hfz128_11, hfz128_12⟩ := blk_frozens13 BK149.out; obtain ⟨Ao129, co129, eo129⟩ := Kd.R_slice HO195.out; subst eo129))
       refine bodyPost_ret (results_ct rfl _ _ gb149 32 #[.int .i64 t181, .int .i64 t182, .int .i64 t183, .int .i64 t184, .int .i64 t185, .int .i64 t186, .int .i64 t187, .int .i64 t188, .int .i64 t189, .int .i64 t190, .string t191, .int .i64 t192, .slice Ao129 t193.length co129] (0, 0) _ rfl (by (with_reducible repeat (first | refine blk_drewN ?_ _ | refine blk_drew ?_ | refine blk_alloc ?_ _)); refine blk_put13 (cs := #[.int .i64 0, .int .i64 0, .int .i64 0, .int .i64 0, .int .i64 0, .int .i64 0, .int .i64 0, .int .i64 0, .int .i64 0, .int .i64 0, .string (⟨#[]⟩ : ByteArray), .int .i64 0, .slice none 0 0]) ?_ rfl; (with_reducible repeat (first | refine blk_drewN ?_ _ | refine blk_drew ?_ | refine blk_alloc ?_ _)); exact BK149.out) Try.underlying32 rfl (by kernel_rfl)) rfl ?_
       exact ⟨_, by first | rfl | (simp [errW_none, errW_some] <;> rfl) | (simp [*, errW_none, errW_some] <;> rfl), by (with_reducible repeat (first | apply Kd.R_alloc | apply Kd.R_drewN | apply Kd.R_drew)); exact Kd.R_mono (Kd.R_far13 (g := gb149) (Kd.R_types HO195.out BK149.out (by decide)) (fun _ hk => hk.2)) (fun _ hk => trivial), gw_ HB⟩
     ·
      rw [if_neg c79] at H
      have c79b0 : (t153 == a2_0 && (t154 == a2_1)) = false := by simpa using c79
      (try (have c79b1 : decide (t153 = a2_0 && (t154 == a2_1)) = false := by simpa using c79))
      (try (have c79b2 : (t153 == a2_0 && (t154 == a2_1)) = false := by simpa using c79))
      (try (have c79b3 : ¬ (t153 = a2_0 && (t154 == a2_1)) := by simpa using c79))
      clear c79
      replace H := Option.bind_eq_some_iff.mp H
      obtain ⟨⟨t196, t197, t198, t199, t200, t201, t202, t203, t204, t205, t206, t207, t208⟩, A1300, H⟩ := H
      replace H : (some (t196, t197, t198, t199, t200, t201, t202, t203, t204, t205, t206, t207, t208, true)) = some (r1, r2, r3, r4, r5, r6, r7, r8, r9, r10, r11, r12, r13, r14) := H
      have A130 := Aside0.mk A1300
      clear A1300
      simp only [Option.some.injEq, Prod.mk.injEq] at H
      obtain ⟨rfl, rfl, rfl, rfl, rfl, rfl, rfl, rfl, rfl, rfl, rfl, rfl, rfl, rfl⟩ := H
      have hnb131 := NB145_146.out
      have hnc131 := NB146_145.out
      have hnb132 := NB145_147.out
      have hnc132 := NB147_145.out
      have hnb133 := NB145_148.out
      have hnc133 := NB148_145.out
      have hnb134 := NB145_149.out
      have hnc134 := NB149_145.out
      obtain ⟨hcz135_0, hcz135_1, hcz135_2, hcz135_3, hcz135_4, hcz135_5, hcz135_6, hcz135_7, hcz135_8, hcz135_9, hcz135_10, hcz135_11, hcz135_12⟩ := blk_cells13 BK145.out
      obtain ⟨hfz135_0, hfz135_1, hfz135_2, hfz135_3, hfz135_4, hfz135_5, hfz135_6, hfz135_7, hfz135_8, hfz135_9, hfz135_10, hfz135_11, hfz135_12⟩ := blk_frozens13 BK145.out
      have hnb136 := NB146_147.out
      have hnc136 := NB147_146.out
      have hnb137 := NB146_148.out
      have hnc137 := NB148_146.out
      have hnb138 := NB146_149.out
      have hnc138 := NB149_146.out
      obtain ⟨hcz139_0, hcz139_1⟩ := blk_cells2 BK146.out
      obtain ⟨hfz139_0, hfz139_1⟩ := blk_frozens2 BK146.out
      have hnb140 := NB147_148.out
      have hnc140 := NB148_147.out
      have hnb141 := NB147_149.out
      have hnc141 := NB149_147.out
      obtain ⟨hcz142_0, hcz142_1, hcz142_2, hcz142_3, hcz142_4, hcz142_5⟩ := blk_cells6 BK147.out
      obtain ⟨hfz142_0, hfz142_1, hfz142_2, hfz142_3, hfz142_4, hfz142_5⟩ := blk_frozens6 BK147.out
      have hnb143 := NB148_149.out
      have hnc143 := NB149_148.out
      obtain ⟨hcz144_0, hcz144_1⟩ := blk_cells2 BK148.out
      obtain ⟨hfz144_0, hfz144_1⟩ := blk_frozens2 BK148.out
      go_wp2_with (first | ((with_reducible refine gate_callee (f := 39) rfl ?_); refine goesL_ (some 52) rfl rfl Try.func39 (by kernel_rfl) rfl #[.agg #[.int .i64 a1, .int .i64 a2_0, .int .i64 a2_1, .int .i64 a2_0, .int .i64 a2_1, .int .i64 a3_0, .int .i64 a3_1, .int .i64 a3_2, .int .i64 a3_3, .int .i64 a3_4, .string a3_5, .int .i64 a4_0, .slice A4_1 l4_1.length c4_1]] rfl (by (try simp only [List.map_toArray, List.map_cons, List.map_nil]); first | done | rfl | (simp only [List.length_drop, List.length_take]; rfl)) ?_; (with_reducible refine (instance_own.calls a1 a2_0 a2_1 a2_0 a2_1 a3_0 a3_1 a3_2 a3_3 a3_4 a3_5 a4_0 _ _ l4_1 t196 t197 t198 t199 t200 t201 t202 t203 t204 t205 t206 t207 t208 _ ?side1 ?side2 A130.out).mono ?_); (case side1 => repeat (first | exact (Kd.C_below HR4_1.out HB.out) | (with_reducible refine Kd.C_alloc ?_ _) | (with_reducible refine Kd.C_drewN ?_ _) | (with_reducible refine Kd.C_drew ?_))); (case side2 => exact HC4_1.out); rintro e w145 ⟨v209, rfl, ho0, hb⟩; refine ⟨_, rfl, ?_⟩; have n0_ := Aside0.mk (Kd.R_elder' (Kd.rk HO_146012) (Kd.R_base ho0) hb); have n1_ := Aside0.mk (Kd.R_lower (Kd.R_new' ho0 (Kd.R_lt (Kd.rk HO_146012))) (below_size (gw_ HB))); have n2_ := Aside0.mk (blk_below (g := gb145) (bk BK145) hb); have n3_ := Aside0.mk (blk_below (g := gb146) (bk BK146) hb); have n4_ := Aside0.mk (blk_below (g := gb147) (bk BK147) hb); have n5_ := Aside0.mk (blk_below (g := gb148) (bk BK148) hb); have n6_ := Aside0.mk (blk_below (g := gb149) (bk BK149) hb); have n7_ := Aside0.mk (below_step (gw_ HB) hb); clear HO_146012; clear BK145; clear BK146; clear BK147; clear BK148; clear BK149; clear HB; have HO_146012 := n0_; have HO210 := n1_; have BK145 := n2_; have BK146 := n3_; have BK147 := n4_; have BK148 := n5_; have BK149 := n6_; have HB := n7_; clear n0_ n1_ n2_ n3_ n4_ n5_ n6_ n7_; (try clear hb); (try clear hb2); (try clear hk); (try clear hi); (try clear ho0); obtain ⟨hcz146_0, hcz146_1, hcz146_2, hcz146_3, hcz146_4, hcz146_5, hcz146_6, hcz146_7, hcz146_8, hcz146_9, hcz146_10, hcz146_11, hcz146_12⟩ := blk_cells13 BK149.out; obtain ⟨hfz146_0, hfz146_1, hfz146_2, hfz146_3, hfz146_4, hfz146_5, hfz146_6, hfz146_7, hfz146_8, hfz146_9, hfz146_10, hfz146_11, hfz146_12⟩ := blk_frozens13 BK149.out; obtain ⟨Ao147, co147, eo147⟩ := Kd.R_slice HO210.out; subst eo147))
      refine bodyPost_ret (results_ct rfl _ _ gb149 32 #[.int .i64 t196, .int .i64 t197, .int .i64 t198, .int .i64 t199, .int .i64 t200, .int .i64 t201, .int .i64 t202, .int .i64 t203, .int .i64 t204, .int .i64 t205, .string t206, .int .i64 t207, .slice Ao147 t208.length co147] (0, 0) _ rfl (by (with_reducible repeat (first | refine blk_drewN ?_ _ | refine blk_drew ?_ | refine blk_alloc ?_ _)); refine blk_put13 (cs := #[.int .i64 0, .int .i64 0, .int .i64 0, .int .i64 0, .int .i64 0, .int .i64 0, .int .i64 0, .int .i64 0, .int .i64 0, .int .i64 0, .string (⟨#[]⟩ : ByteArray), .int .i64 0, .slice none 0 0]) ?_ rfl; (with_reducible repeat (first | refine blk_drewN ?_ _ | refine blk_drew ?_ | refine blk_alloc ?_ _)); exact BK149.out) Try.underlying32 rfl (by kernel_rfl)) rfl ?_
      exact ⟨_, by first | rfl | (simp [errW_none, errW_some] <;> rfl) | (simp [*, errW_none, errW_some] <;> rfl), by (with_reducible repeat (first | apply Kd.R_alloc | apply Kd.R_drewN | apply Kd.R_drew)); exact Kd.R_mono (Kd.R_far13 (g := gb149) (Kd.R_types HO210.out BK149.out (by decide)) (fun _ hk => hk.2)) (fun _ hk => trivial), gw_ HB⟩

def instance_PreAccept.f (k : Nat) (a0_0 : Int) (a0_1 : Int) (a0_2 : Int) (a0_3 : Int) (a0_4 : Int) (a0_5 : Int) (a0_6 : Int) (a0_7 : Int) (a0_8 : Int) (a0_9 : Int) (a0_10 : ByteArray) (a0_11 : Int) (l0_12 : List Int) (a1_0 : Int) (a1_1 : Int) (a2_0 : Int) (a2_1 : Int) (a2_2 : Int) (a2_3 : Int) (a2_4 : Int) (a2_5 : ByteArray) (a3_0 : Int) (l3_1 : List Int) : Option (Int × Int × Int × Int × Int × Int × Int × Int × Int × Int × ByteArray × Int × List Int × Bool) := (instance_vote.f k a0_0 a0_1 a0_2 a0_3 a0_4 a0_5 a0_6 a0_7 a0_8 a0_9 a0_10 a0_11 l0_12 1 a1_0 a1_1 a2_0 a2_1 a2_2 a2_3 a2_4 a2_5 a3_0 l3_1).bind fun bt216 => (some (bt216.1, bt216.2.1, bt216.2.2.1, bt216.2.2.2.1, bt216.2.2.2.2.1, bt216.2.2.2.2.2.1, bt216.2.2.2.2.2.2.1, bt216.2.2.2.2.2.2.2.1, bt216.2.2.2.2.2.2.2.2.1, bt216.2.2.2.2.2.2.2.2.2.1, bt216.2.2.2.2.2.2.2.2.2.2.1, bt216.2.2.2.2.2.2.2.2.2.2.2.1, bt216.2.2.2.2.2.2.2.2.2.2.2.2.1, bt216.2.2.2.2.2.2.2.2.2.2.2.2.2))
set_option maxHeartbeats 8000000 in
set_option maxRecDepth 100000 in
theorem instance_PreAccept.calls (k : Nat) (a0_0 : Int) (a0_1 : Int) (a0_2 : Int) (a0_3 : Int) (a0_4 : Int) (a0_5 : Int) (a0_6 : Int) (a0_7 : Int) (a0_8 : Int) (a0_9 : Int) (a0_10 : ByteArray) (a0_11 : Int) (A0_12 : Option Addr) (c0_12 : Nat) (l0_12 : List Int) (a1_0 : Int) (a1_1 : Int) (a2_0 : Int) (a2_1 : Int) (a2_2 : Int) (a2_3 : Int) (a2_4 : Int) (a2_5 : ByteArray) (a3_0 : Int) (A3_1 : Option Addr) (c3_1 : Nat) (l3_1 : List Int) (r1 : Int) (r2 : Int) (r3 : Int) (r4 : Int) (r5 : Int) (r6 : Int) (r7 : Int) (r8 : Int) (r9 : Int) (r10 : Int) (r11 : ByteArray) (r12 : Int) (r13 : List Int) (r14 : Bool) (w : World) (hr0_12 : Kd.C (Kd.int .i64) w A0_12 l0_12.length l0_12) (hc0_12 : l0_12.length ≤ c0_12) (hr3_1 : Kd.C (Kd.int .i64) w A3_1 l3_1.length l3_1) (hc3_1 : l3_1.length ≤ c3_1) (h : instance_PreAccept.f k a0_0 a0_1 a0_2 a0_3 a0_4 a0_5 a0_6 a0_7 a0_8 a0_9 a0_10 a0_11 l0_12 a1_0 a1_1 a2_0 a2_1 a2_2 a2_3 a2_4 a2_5 a3_0 l3_1 = some (r1, r2, r3, r4, r5, r6, r7, r8, r9, r10, r11, r12, r13, r14)) :
  Calls Try.prog 19 #[.agg #[.int .i64 a0_0, .int .i64 a0_1, .int .i64 a0_2, .int .i64 a0_3, .int .i64 a0_4, .int .i64 a0_5, .int .i64 a0_6, .int .i64 a0_7, .int .i64 a0_8, .int .i64 a0_9, .string a0_10, .int .i64 a0_11, .slice A0_12 l0_12.length c0_12], .agg #[.int .i64 a1_0, .int .i64 a1_1], .agg #[.int .i64 a2_0, .int .i64 a2_1, .int .i64 a2_2, .int .i64 a2_3, .int .i64 a2_4, .string a2_5], .agg #[.int .i64 a3_0, .slice A3_1 l3_1.length c3_1]] w fun e w' => ∃ v12_ : Value, e = .returned (.tuple #[.agg #[.int .i64 r1, .int .i64 r2, .int .i64 r3, .int .i64 r4, .int .i64 r5, .int .i64 r6, .int .i64 r7, .int .i64 r8, .int .i64 r9, .int .i64 r10, .string r11, .int .i64 r12, v12_], .bool r14]) ∧ Kd.R (Kd.int .i64) 3 w' w.heap.size (fun _ => True) v12_ r13 ∧ Below w.heap.size w w' := by
 have hu32 := Try.underlying32
 have hu25 := Try.underlying25
 have hu27 := Try.underlying27
 have hu30 := Try.underlying30
 have HR0_12 := Aside0.mk hr0_12
 have HC0_12 := Aside0.mk hc0_12
 clear hr0_12 hc0_12
 have HR3_1 := Aside0.mk hr3_1
 have HC3_1 := Aside0.mk hc3_1
 clear hr3_1 hc3_1
 have HB := Aside0.mk (Below.refl w.heap.size w)
 have H : ((instance_vote.f k a0_0 a0_1 a0_2 a0_3 a0_4 a0_5 a0_6 a0_7 a0_8 a0_9 a0_10 a0_11 l0_12 1 a1_0 a1_1 a2_0 a2_1 a2_2 a2_3 a2_4 a2_5 a3_0 l3_1).bind fun bt216 => (some (bt216.1, bt216.2.1, bt216.2.2.1, bt216.2.2.2.1, bt216.2.2.2.2.1, bt216.2.2.2.2.2.1, bt216.2.2.2.2.2.2.1, bt216.2.2.2.2.2.2.2.1, bt216.2.2.2.2.2.2.2.2.1, bt216.2.2.2.2.2.2.2.2.2.1, bt216.2.2.2.2.2.2.2.2.2.2.1, bt216.2.2.2.2.2.2.2.2.2.2.2.1, bt216.2.2.2.2.2.2.2.2.2.2.2.2.1, bt216.2.2.2.2.2.2.2.2.2.2.2.2.2))) = some (r1, r2, r3, r4, r5, r6, r7, r8, r9, r10, r11, r12, r13, r14) := h
 clear h
 replace H := Option.bind_eq_some_iff.mp H
 obtain ⟨⟨t216, t217, t218, t219, t220, t221, t222, t223, t224, t225, t226, t227, t228, t231⟩, A50, H⟩ := H
 replace H : (some (t216, t217, t218, t219, t220, t221, t222, t223, t224, t225, t226, t227, t228, t231)) = some (r1, r2, r3, r4, r5, r6, r7, r8, r9, r10, r11, r12, r13, r14) := H
 have A5 := Aside0.mk A50
 clear A50
 simp only [Option.some.injEq, Prod.mk.injEq] at H
 obtain ⟨rfl, rfl, rfl, rfl, rfl, rfl, rfl, rfl, rfl, rfl, rfl, rfl, rfl, rfl⟩ := H
 go_enter Try.func19, Try.ntmps19
 go_wp2_with (first | ((with_reducible refine gate_dst (N := 4) rfl ?_); refine box_event ?hg (N := 4) ?hd (cs := #[.int .i64 a0_0, .int .i64 a0_1, .int .i64 a0_2, .int .i64 a0_3, .int .i64 a0_4, .int .i64 a0_5, .int .i64 a0_6, .int .i64 a0_7, .int .i64 a0_8, .int .i64 a0_9, .string a0_10, .int .i64 a0_11, .slice A0_12 l0_12.length c0_12]) (t := 32) ?hr ?_; (case hd => rfl); (case hg => rfl); (case hr => first | (go_simp; done) | (go_simp; rfl)); intro gb211 hg w6 hbox hb; have s_ := step_size_ (gw_ HB) hb hg; have n0_ := Aside0.mk s_.1; have n1_ := Aside0.mk (hbox); have n2_ := Aside0.mk s_.2; clear s_; have n3_ := n2_; clear HB; have HB := n0_; have BK211 := n1_; have GW211 := n2_; have GE211 := n3_; clear n0_ n1_ n2_ n3_; clear hb hbox hg) | ((with_reducible refine gate_dst (N := 5) rfl ?_); refine box_event ?hg (N := 5) ?hd (cs := #[.int .i64 a1_0, .int .i64 a1_1]) (t := 25) ?hr ?_; (case hd => rfl); (case hg => rfl); (case hr => first | (go_simp; done) | (go_simp; rfl)); intro gb212 hg w7 hbox hb; have n0_ := Aside0.mk (blk_below (g := gb211) (bk BK211) hb); have s_ := step_size_ (gw_ HB) hb hg; have n1_ := Aside0.mk s_.1; have n2_ := Aside0.mk (hbox); have n3_ := Aside0.mk s_.2; clear s_; have n4_ := n3_; have l_ := blk_lt_ (g := gb211) hg (bk BK211); have n5_ := Aside0.mk (Nat.ne_of_lt l_); have n6_ := Aside0.mk (Nat.ne_of_gt l_); clear l_; clear BK211; clear HB; have BK211 := n0_; have HB := n1_; have BK212 := n2_; have GW212 := n3_; have GE212 := n4_; have NB211_212 := n5_; have NB212_211 := n6_; clear n0_ n1_ n2_ n3_ n4_ n5_ n6_; clear hb hbox hg) | ((with_reducible refine gate_dst (N := 6) rfl ?_); refine box_event ?hg (N := 6) ?hd (cs := #[.int .i64 a2_0, .int .i64 a2_1, .int .i64 a2_2, .int .i64 a2_3, .int .i64 a2_4, .string a2_5]) (t := 27) ?hr ?_; (case hd => rfl); (case hg => rfl); (case hr => first | (go_simp; done) | (go_simp; rfl)); intro gb213 hg w8 hbox hb; have n0_ := Aside0.mk (blk_below (g := gb211) (bk BK211) hb); have n1_ := Aside0.mk (blk_below (g := gb212) (bk BK212) hb); have s_ := step_size_ (gw_ HB) hb hg; have n2_ := Aside0.mk s_.1; have n3_ := Aside0.mk (hbox); have n4_ := Aside0.mk s_.2; clear s_; have n5_ := n4_; have l_ := blk_lt_ (g := gb211) hg (bk BK211); have n6_ := Aside0.mk (Nat.ne_of_lt l_); have n7_ := Aside0.mk (Nat.ne_of_gt l_); clear l_; have l_ := blk_lt_ (g := gb212) hg (bk BK212); have n8_ := Aside0.mk (Nat.ne_of_lt l_); have n9_ := Aside0.mk (Nat.ne_of_gt l_); clear l_; clear BK211; clear BK212; clear HB; have BK211 := n0_; have BK212 := n1_; have HB := n2_; have BK213 := n3_; have GW213 := n4_; have GE213 := n5_; have NB211_213 := n6_; have NB213_211 := n7_; have NB212_213 := n8_; have NB213_212 := n9_; clear n0_ n1_ n2_ n3_ n4_ n5_ n6_ n7_ n8_ n9_; clear hb hbox hg) | ((with_reducible refine gate_dst (N := 7) rfl ?_); refine box_event ?hg (N := 7) ?hd (cs := #[.int .i64 a3_0, .slice A3_1 l3_1.length c3_1]) (t := 30) ?hr ?_; (case hd => rfl); (case hg => rfl); (case hr => first | (go_simp; done) | (go_simp; rfl)); intro gb214 hg w9 hbox hb; have n0_ := Aside0.mk (blk_below (g := gb211) (bk BK211) hb); have n1_ := Aside0.mk (blk_below (g := gb212) (bk BK212) hb); have n2_ := Aside0.mk (blk_below (g := gb213) (bk BK213) hb); have s_ := step_size_ (gw_ HB) hb hg; have n3_ := Aside0.mk s_.1; have n4_ := Aside0.mk (hbox); have n5_ := Aside0.mk s_.2; clear s_; have n6_ := n5_; have l_ := blk_lt_ (g := gb211) hg (bk BK211); have n7_ := Aside0.mk (Nat.ne_of_lt l_); have n8_ := Aside0.mk (Nat.ne_of_gt l_); clear l_; have l_ := blk_lt_ (g := gb212) hg (bk BK212); have n9_ := Aside0.mk (Nat.ne_of_lt l_); have n10_ := Aside0.mk (Nat.ne_of_gt l_); clear l_; have l_ := blk_lt_ (g := gb213) hg (bk BK213); have n11_ := Aside0.mk (Nat.ne_of_lt l_); have n12_ := Aside0.mk (Nat.ne_of_gt l_); clear l_; clear BK211; clear BK212; clear BK213; clear HB; have BK211 := n0_; have BK212 := n1_; have BK213 := n2_; have HB := n3_; have BK214 := n4_; have GW214 := n5_; have GE214 := n6_; have NB211_214 := n7_; have NB214_211 := n8_; have NB212_214 := n9_; have NB214_212 := n10_; have NB213_214 := n11_; have NB214_213 := n12_; clear n0_ n1_ n2_ n3_ n4_ n5_ n6_ n7_ n8_ n9_ n10_ n11_ n12_; clear hb hbox hg) | ((with_reducible refine gate_dst (N := 8) rfl ?_); refine box_event ?hg (N := 8) ?hd (cs := #[.int .i64 0, .int .i64 0, .int .i64 0, .int .i64 0, .int .i64 0, .int .i64 0, .int .i64 0, .int .i64 0, .int .i64 0, .int .i64 0, .string (⟨#[]⟩ : ByteArray), .int .i64 0, .slice none 0 0]) (t := 32) ?hr ?_; (case hd => rfl); (case hg => rfl); (case hr => first | (go_simp; done) | (go_simp; rfl)); intro gb215 hg w10 hbox hb; have n0_ := Aside0.mk (blk_below (g := gb211) (bk BK211) hb); have n1_ := Aside0.mk (blk_below (g := gb212) (bk BK212) hb); have n2_ := Aside0.mk (blk_below (g := gb213) (bk BK213) hb); have n3_ := Aside0.mk (blk_below (g := gb214) (bk BK214) hb); have s_ := step_size_ (gw_ HB) hb hg; have n4_ := Aside0.mk s_.1; have n5_ := Aside0.mk (hbox); have n6_ := Aside0.mk s_.2; clear s_; have n7_ := n6_; have l_ := blk_lt_ (g := gb211) hg (bk BK211); have n8_ := Aside0.mk (Nat.ne_of_lt l_); have n9_ := Aside0.mk (Nat.ne_of_gt l_); clear l_; have l_ := blk_lt_ (g := gb212) hg (bk BK212); have n10_ := Aside0.mk (Nat.ne_of_lt l_); have n11_ := Aside0.mk (Nat.ne_of_gt l_); clear l_; have l_ := blk_lt_ (g := gb213) hg (bk BK213); have n12_ := Aside0.mk (Nat.ne_of_lt l_); have n13_ := Aside0.mk (Nat.ne_of_gt l_); clear l_; have l_ := blk_lt_ (g := gb214) hg (bk BK214); have n14_ := Aside0.mk (Nat.ne_of_lt l_); have n15_ := Aside0.mk (Nat.ne_of_gt l_); clear l_; clear BK211; clear BK212; clear BK213; clear BK214; clear HB; have BK211 := n0_; have BK212 := n1_; have BK213 := n2_; have BK214 := n3_; have HB := n4_; have BK215 := n5_; have GW215 := n6_; have GE215 := n7_; have NB211_215 := n8_; have NB215_211 := n9_; have NB212_215 := n10_; have NB215_212 := n11_; have NB213_215 := n12_; have NB215_213 := n13_; have NB214_215 := n14_; have NB215_214 := n15_; clear n0_ n1_ n2_ n3_ n4_ n5_ n6_ n7_ n8_ n9_ n10_ n11_ n12_ n13_ n14_ n15_; clear hb hbox hg; have hnb11 := NB211_212.out; have hnc11 := NB212_211.out; have hnb12 := NB211_213.out; have hnc12 := NB213_211.out; have hnb13 := NB211_214.out; have hnc13 := NB214_211.out; have hnb14 := NB211_215.out; have hnc14 := NB215_211.out; obtain ⟨hcz15_0, hcz15_1, hcz15_2, hcz15_3, hcz15_4, hcz15_5, hcz15_6, hcz15_7, hcz15_8, hcz15_9, hcz15_10, hcz15_11, hcz15_12⟩ := blk_cells13 BK211.out; obtain ⟨hfz15_0, hfz15_1, hfz15_2, hfz15_3, hfz15_4, hfz15_5, hfz15_6, hfz15_7, hfz15_8, hfz15_9, hfz15_10, hfz15_11, hfz15_12⟩ := blk_frozens13 BK211.out; have hnb16 := NB212_213.out; have hnc16 := NB213_212.out; have hnb17 := NB212_214.out; have hnc17 := NB214_212.out; have hnb18 := NB212_215.out; have hnc18 := NB215_212.out; obtain ⟨hcz19_0, hcz19_1⟩ := blk_cells2 BK212.out; obtain ⟨hfz19_0, hfz19_1⟩ := blk_frozens2 BK212.out; have hnb20 := NB213_214.out; have hnc20 := NB214_213.out; have hnb21 := NB213_215.out; have hnc21 := NB215_213.out; obtain ⟨hcz22_0, hcz22_1, hcz22_2, hcz22_3, hcz22_4, hcz22_5⟩ := blk_cells6 BK213.out; obtain ⟨hfz22_0, hfz22_1, hfz22_2, hfz22_3, hfz22_4, hfz22_5⟩ := blk_frozens6 BK213.out; have hnb23 := NB214_215.out; have hnc23 := NB215_214.out; obtain ⟨hcz24_0, hcz24_1⟩ := blk_cells2 BK214.out; obtain ⟨hfz24_0, hfz24_1⟩ := blk_frozens2 BK214.out) | ((with_reducible refine gate_callee (f := 41) rfl ?_); refine goesL_ (some 14) rfl rfl Try.func41 (by kernel_rfl) rfl #[.agg #[.int .i64 a0_0, .int .i64 a0_1, .int .i64 a0_2, .int .i64 a0_3, .int .i64 a0_4, .int .i64 a0_5, .int .i64 a0_6, .int .i64 a0_7, .int .i64 a0_8, .int .i64 a0_9, .string a0_10, .int .i64 a0_11, .slice A0_12 l0_12.length c0_12], .int .i64 1, .agg #[.int .i64 a1_0, .int .i64 a1_1], .agg #[.int .i64 a2_0, .int .i64 a2_1, .int .i64 a2_2, .int .i64 a2_3, .int .i64 a2_4, .string a2_5], .agg #[.int .i64 a3_0, .slice A3_1 l3_1.length c3_1]] rfl (by (try simp only [List.map_toArray, List.map_cons, List.map_nil]); first | done | rfl | (simp only [List.length_drop, List.length_take]; rfl)) ?_; (with_reducible refine (instance_vote.calls k a0_0 a0_1 a0_2 a0_3 a0_4 a0_5 a0_6 a0_7 a0_8 a0_9 a0_10 a0_11 _ _ l0_12 1 a1_0 a1_1 a2_0 a2_1 a2_2 a2_3 a2_4 a2_5 a3_0 _ _ l3_1 t216 t217 t218 t219 t220 t221 t222 t223 t224 t225 t226 t227 t228 t231 _ ?side1 ?side2 ?side3 ?side4 A5.out).mono ?_); (case side1 => repeat (first | exact (Kd.C_below HR0_12.out HB.out) | (with_reducible refine Kd.C_alloc ?_ _) | (with_reducible refine Kd.C_drewN ?_ _) | (with_reducible refine Kd.C_drew ?_))); (case side2 => exact HC0_12.out); (case side3 => repeat (first | exact (Kd.C_below HR3_1.out HB.out) | (with_reducible refine Kd.C_alloc ?_ _) | (with_reducible refine Kd.C_drewN ?_ _) | (with_reducible refine Kd.C_drew ?_))); (case side4 => exact HC3_1.out); rintro e w25 ⟨v229, rfl, ho0, hb⟩; refine ⟨_, rfl, ?_⟩; have n0_ := Aside0.mk (Kd.R_lower ho0 (below_size (gw_ HB))); have n1_ := Aside0.mk (blk_below (g := gb211) (bk BK211) hb); have n2_ := Aside0.mk (blk_below (g := gb212) (bk BK212) hb); have n3_ := Aside0.mk (blk_below (g := gb213) (bk BK213) hb); have n4_ := Aside0.mk (blk_below (g := gb214) (bk BK214) hb); have n5_ := Aside0.mk (blk_below (g := gb215) (bk BK215) hb); have n6_ := Aside0.mk (below_step (gw_ HB) hb); clear BK211; clear BK212; clear BK213; clear BK214; clear BK215; clear HB; have HO230 := n0_; have BK211 := n1_; have BK212 := n2_; have BK213 := n3_; have BK214 := n4_; have BK215 := n5_; have HB := n6_; clear n0_ n1_ n2_ n3_ n4_ n5_ n6_; (try clear hb); (try clear hb2); (try clear hk); (try clear hi); (try clear ho0); obtain ⟨hcz26_0, hcz26_1, hcz26_2, hcz26_3, hcz26_4, hcz26_5, hcz26_6, hcz26_7, hcz26_8, hcz26_9, hcz26_10, hcz26_11, hcz26_12⟩ := blk_cells13 BK215.out; obtain ⟨hfz26_0, hfz26_1, hfz26_2, hfz26_3, hfz26_4, hfz26_5, hfz26_6, hfz26_7, hfz26_8, hfz26_9, hfz26_10, hfz26_11, hfz26_12⟩ := blk_frozens13 BK215.out; obtain ⟨Ao27, co27, eo27⟩ := Kd.R_slice HO230.out; subst eo27))
 refine bodyPost_ret (results_ct rfl _ _ gb215 32 #[.int .i64 t216, .int .i64 t217, .int .i64 t218, .int .i64 t219, .int .i64 t220, .int .i64 t221, .int .i64 t222, .int .i64 t223, .int .i64 t224, .int .i64 t225, .string t226, .int .i64 t227, .slice Ao27 t228.length co27] (0, 0) _ rfl (by (with_reducible repeat (first | refine blk_drewN ?_ _ | refine blk_drew ?_ | refine blk_alloc ?_ _)); refine blk_put13 (cs := #[.int .i64 0, .int .i64 0, .int .i64 0, .int .i64 0, .int .i64 0, .int .i64 0, .int .i64 0, .int .i64 0, .int .i64 0, .int .i64 0, .string (⟨#[]⟩ : ByteArray), .int .i64 0, .slice none 0 0]) ?_ rfl; (with_reducible repeat (first | refine blk_drewN ?_ _ | refine blk_drew ?_ | refine blk_alloc ?_ _)); exact BK215.out) Try.underlying32 rfl (by kernel_rfl)) rfl ?_
 exact ⟨_, by first | rfl | (simp [errW_none, errW_some] <;> rfl) | (simp [*, errW_none, errW_some] <;> rfl), by (with_reducible repeat (first | apply Kd.R_alloc | apply Kd.R_drewN | apply Kd.R_drew)); exact Kd.R_mono (Kd.R_far13 (g := gb215) (Kd.R_types HO230.out BK215.out (by decide)) (fun _ hk => hk.2)) (fun _ hk => trivial), gw_ HB⟩

def instance_Accept.f (k : Nat) (a0_0 : Int) (a0_1 : Int) (a0_2 : Int) (a0_3 : Int) (a0_4 : Int) (a0_5 : Int) (a0_6 : Int) (a0_7 : Int) (a0_8 : Int) (a0_9 : Int) (a0_10 : ByteArray) (a0_11 : Int) (l0_12 : List Int) (a1_0 : Int) (a1_1 : Int) (a2_0 : Int) (a2_1 : Int) (a2_2 : Int) (a2_3 : Int) (a2_4 : Int) (a2_5 : ByteArray) (a3_0 : Int) (l3_1 : List Int) : Option (Int × Int × Int × Int × Int × Int × Int × Int × Int × Int × ByteArray × Int × List Int × Bool) := (instance_vote.f k a0_0 a0_1 a0_2 a0_3 a0_4 a0_5 a0_6 a0_7 a0_8 a0_9 a0_10 a0_11 l0_12 2 a1_0 a1_1 a2_0 a2_1 a2_2 a2_3 a2_4 a2_5 a3_0 l3_1).bind fun bt237 => (some (bt237.1, bt237.2.1, bt237.2.2.1, bt237.2.2.2.1, bt237.2.2.2.2.1, bt237.2.2.2.2.2.1, bt237.2.2.2.2.2.2.1, bt237.2.2.2.2.2.2.2.1, bt237.2.2.2.2.2.2.2.2.1, bt237.2.2.2.2.2.2.2.2.2.1, bt237.2.2.2.2.2.2.2.2.2.2.1, bt237.2.2.2.2.2.2.2.2.2.2.2.1, bt237.2.2.2.2.2.2.2.2.2.2.2.2.1, bt237.2.2.2.2.2.2.2.2.2.2.2.2.2))
set_option maxHeartbeats 8000000 in
set_option maxRecDepth 100000 in
theorem instance_Accept.calls (k : Nat) (a0_0 : Int) (a0_1 : Int) (a0_2 : Int) (a0_3 : Int) (a0_4 : Int) (a0_5 : Int) (a0_6 : Int) (a0_7 : Int) (a0_8 : Int) (a0_9 : Int) (a0_10 : ByteArray) (a0_11 : Int) (A0_12 : Option Addr) (c0_12 : Nat) (l0_12 : List Int) (a1_0 : Int) (a1_1 : Int) (a2_0 : Int) (a2_1 : Int) (a2_2 : Int) (a2_3 : Int) (a2_4 : Int) (a2_5 : ByteArray) (a3_0 : Int) (A3_1 : Option Addr) (c3_1 : Nat) (l3_1 : List Int) (r1 : Int) (r2 : Int) (r3 : Int) (r4 : Int) (r5 : Int) (r6 : Int) (r7 : Int) (r8 : Int) (r9 : Int) (r10 : Int) (r11 : ByteArray) (r12 : Int) (r13 : List Int) (r14 : Bool) (w : World) (hr0_12 : Kd.C (Kd.int .i64) w A0_12 l0_12.length l0_12) (hc0_12 : l0_12.length ≤ c0_12) (hr3_1 : Kd.C (Kd.int .i64) w A3_1 l3_1.length l3_1) (hc3_1 : l3_1.length ≤ c3_1) (h : instance_Accept.f k a0_0 a0_1 a0_2 a0_3 a0_4 a0_5 a0_6 a0_7 a0_8 a0_9 a0_10 a0_11 l0_12 a1_0 a1_1 a2_0 a2_1 a2_2 a2_3 a2_4 a2_5 a3_0 l3_1 = some (r1, r2, r3, r4, r5, r6, r7, r8, r9, r10, r11, r12, r13, r14)) :
  Calls Try.prog 20 #[.agg #[.int .i64 a0_0, .int .i64 a0_1, .int .i64 a0_2, .int .i64 a0_3, .int .i64 a0_4, .int .i64 a0_5, .int .i64 a0_6, .int .i64 a0_7, .int .i64 a0_8, .int .i64 a0_9, .string a0_10, .int .i64 a0_11, .slice A0_12 l0_12.length c0_12], .agg #[.int .i64 a1_0, .int .i64 a1_1], .agg #[.int .i64 a2_0, .int .i64 a2_1, .int .i64 a2_2, .int .i64 a2_3, .int .i64 a2_4, .string a2_5], .agg #[.int .i64 a3_0, .slice A3_1 l3_1.length c3_1]] w fun e w' => ∃ v12_ : Value, e = .returned (.tuple #[.agg #[.int .i64 r1, .int .i64 r2, .int .i64 r3, .int .i64 r4, .int .i64 r5, .int .i64 r6, .int .i64 r7, .int .i64 r8, .int .i64 r9, .int .i64 r10, .string r11, .int .i64 r12, v12_], .bool r14]) ∧ Kd.R (Kd.int .i64) 3 w' w.heap.size (fun _ => True) v12_ r13 ∧ Below w.heap.size w w' := by
 have hu32 := Try.underlying32
 have hu25 := Try.underlying25
 have hu27 := Try.underlying27
 have hu30 := Try.underlying30
 have HR0_12 := Aside0.mk hr0_12
 have HC0_12 := Aside0.mk hc0_12
 clear hr0_12 hc0_12
 have HR3_1 := Aside0.mk hr3_1
 have HC3_1 := Aside0.mk hc3_1
 clear hr3_1 hc3_1
 have HB := Aside0.mk (Below.refl w.heap.size w)
 have H : ((instance_vote.f k a0_0 a0_1 a0_2 a0_3 a0_4 a0_5 a0_6 a0_7 a0_8 a0_9 a0_10 a0_11 l0_12 2 a1_0 a1_1 a2_0 a2_1 a2_2 a2_3 a2_4 a2_5 a3_0 l3_1).bind fun bt237 => (some (bt237.1, bt237.2.1, bt237.2.2.1, bt237.2.2.2.1, bt237.2.2.2.2.1, bt237.2.2.2.2.2.1, bt237.2.2.2.2.2.2.1, bt237.2.2.2.2.2.2.2.1, bt237.2.2.2.2.2.2.2.2.1, bt237.2.2.2.2.2.2.2.2.2.1, bt237.2.2.2.2.2.2.2.2.2.2.1, bt237.2.2.2.2.2.2.2.2.2.2.2.1, bt237.2.2.2.2.2.2.2.2.2.2.2.2.1, bt237.2.2.2.2.2.2.2.2.2.2.2.2.2))) = some (r1, r2, r3, r4, r5, r6, r7, r8, r9, r10, r11, r12, r13, r14) := h
 clear h
 replace H := Option.bind_eq_some_iff.mp H
 obtain ⟨⟨t237, t238, t239, t240, t241, t242, t243, t244, t245, t246, t247, t248, t249, t252⟩, A50, H⟩ := H
 replace H : (some (t237, t238, t239, t240, t241, t242, t243, t244, t245, t246, t247, t248, t249, t252)) = some (r1, r2, r3, r4, r5, r6, r7, r8, r9, r10, r11, r12, r13, r14) := H
 have A5 := Aside0.mk A50
 clear A50
 simp only [Option.some.injEq, Prod.mk.injEq] at H
 obtain ⟨rfl, rfl, rfl, rfl, rfl, rfl, rfl, rfl, rfl, rfl, rfl, rfl, rfl, rfl⟩ := H
 go_enter Try.func20, Try.ntmps20
 go_wp2_with (first | ((with_reducible refine gate_dst (N := 4) rfl ?_); refine box_event ?hg (N := 4) ?hd (cs := #[.int .i64 a0_0, .int .i64 a0_1, .int .i64 a0_2, .int .i64 a0_3, .int .i64 a0_4, .int .i64 a0_5, .int .i64 a0_6, .int .i64 a0_7, .int .i64 a0_8, .int .i64 a0_9, .string a0_10, .int .i64 a0_11, .slice A0_12 l0_12.length c0_12]) (t := 32) ?hr ?_; (case hd => rfl); (case hg => rfl); (case hr => first | (go_simp; done) | (go_simp; rfl)); intro gb232 hg w6 hbox hb; have s_ := step_size_ (gw_ HB) hb hg; have n0_ := Aside0.mk s_.1; have n1_ := Aside0.mk (hbox); have n2_ := Aside0.mk s_.2; clear s_; have n3_ := n2_; clear HB; have HB := n0_; have BK232 := n1_; have GW232 := n2_; have GE232 := n3_; clear n0_ n1_ n2_ n3_; clear hb hbox hg) | ((with_reducible refine gate_dst (N := 5) rfl ?_); refine box_event ?hg (N := 5) ?hd (cs := #[.int .i64 a1_0, .int .i64 a1_1]) (t := 25) ?hr ?_; (case hd => rfl); (case hg => rfl); (case hr => first | (go_simp; done) | (go_simp; rfl)); intro gb233 hg w7 hbox hb; have n0_ := Aside0.mk (blk_below (g := gb232) (bk BK232) hb); have s_ := step_size_ (gw_ HB) hb hg; have n1_ := Aside0.mk s_.1; have n2_ := Aside0.mk (hbox); have n3_ := Aside0.mk s_.2; clear s_; have n4_ := n3_; have l_ := blk_lt_ (g := gb232) hg (bk BK232); have n5_ := Aside0.mk (Nat.ne_of_lt l_); have n6_ := Aside0.mk (Nat.ne_of_gt l_); clear l_; clear BK232; clear HB; have BK232 := n0_; have HB := n1_; have BK233 := n2_; have GW233 := n3_; have GE233 := n4_; have NB232_233 := n5_; have NB233_232 := n6_; clear n0_ n1_ n2_ n3_ n4_ n5_ n6_; clear hb hbox hg) | ((with_reducible refine gate_dst (N := 6) rfl ?_); refine box_event ?hg (N := 6) ?hd (cs := #[.int .i64 a2_0, .int .i64 a2_1, .int .i64 a2_2, .int .i64 a2_3, .int .i64 a2_4, .string a2_5]) (t := 27) ?hr ?_; (case hd => rfl); (case hg => rfl); (case hr => first | (go_simp; done) | (go_simp; rfl)); intro gb234 hg w8 hbox hb; have n0_ := Aside0.mk (blk_below (g := gb232) (bk BK232) hb); have n1_ := Aside0.mk (blk_below (g := gb233) (bk BK233) hb); have s_ := step_size_ (gw_ HB) hb hg; have n2_ := Aside0.mk s_.1; have n3_ := Aside0.mk (hbox); have n4_ := Aside0.mk s_.2; clear s_; have n5_ := n4_; have l_ := blk_lt_ (g := gb232) hg (bk BK232); have n6_ := Aside0.mk (Nat.ne_of_lt l_); have n7_ := Aside0.mk (Nat.ne_of_gt l_); clear l_; have l_ := blk_lt_ (g := gb233) hg (bk BK233); have n8_ := Aside0.mk (Nat.ne_of_lt l_); have n9_ := Aside0.mk (Nat.ne_of_gt l_); clear l_; clear BK232; clear BK233; clear HB; have BK232 := n0_; have BK233 := n1_; have HB := n2_; have BK234 := n3_; have GW234 := n4_; have GE234 := n5_; have NB232_234 := n6_; have NB234_232 := n7_; have NB233_234 := n8_; have NB234_233 := n9_; clear n0_ n1_ n2_ n3_ n4_ n5_ n6_ n7_ n8_ n9_; clear hb hbox hg) | ((with_reducible refine gate_dst (N := 7) rfl ?_); refine box_event ?hg (N := 7) ?hd (cs := #[.int .i64 a3_0, .slice A3_1 l3_1.length c3_1]) (t := 30) ?hr ?_; (case hd => rfl); (case hg => rfl); (case hr => first | (go_simp; done) | (go_simp; rfl)); intro gb235 hg w9 hbox hb; have n0_ := Aside0.mk (blk_below (g := gb232) (bk BK232) hb); have n1_ := Aside0.mk (blk_below (g := gb233) (bk BK233) hb); have n2_ := Aside0.mk (blk_below (g := gb234) (bk BK234) hb); have s_ := step_size_ (gw_ HB) hb hg; have n3_ := Aside0.mk s_.1; have n4_ := Aside0.mk (hbox); have n5_ := Aside0.mk s_.2; clear s_; have n6_ := n5_; have l_ := blk_lt_ (g := gb232) hg (bk BK232); have n7_ := Aside0.mk (Nat.ne_of_lt l_); have n8_ := Aside0.mk (Nat.ne_of_gt l_); clear l_; have l_ := blk_lt_ (g := gb233) hg (bk BK233); have n9_ := Aside0.mk (Nat.ne_of_lt l_); have n10_ := Aside0.mk (Nat.ne_of_gt l_); clear l_; have l_ := blk_lt_ (g := gb234) hg (bk BK234); have n11_ := Aside0.mk (Nat.ne_of_lt l_); have n12_ := Aside0.mk (Nat.ne_of_gt l_); clear l_; clear BK232; clear BK233; clear BK234; clear HB; have BK232 := n0_; have BK233 := n1_; have BK234 := n2_; have HB := n3_; have BK235 := n4_; have GW235 := n5_; have GE235 := n6_; have NB232_235 := n7_; have NB235_232 := n8_; have NB233_235 := n9_; have NB235_233 := n10_; have NB234_235 := n11_; have NB235_234 := n12_; clear n0_ n1_ n2_ n3_ n4_ n5_ n6_ n7_ n8_ n9_ n10_ n11_ n12_; clear hb hbox hg) | ((with_reducible refine gate_dst (N := 8) rfl ?_); refine box_event ?hg (N := 8) ?hd (cs := #[.int .i64 0, .int .i64 0, .int .i64 0, .int .i64 0, .int .i64 0, .int .i64 0, .int .i64 0, .int .i64 0, .int .i64 0, .int .i64 0, .string (⟨#[]⟩ : ByteArray), .int .i64 0, .slice none 0 0]) (t := 32) ?hr ?_; (case hd => rfl); (case hg => rfl); (case hr => first | (go_simp; done) | (go_simp; rfl)); intro gb236 hg w10 hbox hb; have n0_ := Aside0.mk (blk_below (g := gb232) (bk BK232) hb); have n1_ := Aside0.mk (blk_below (g := gb233) (bk BK233) hb); have n2_ := Aside0.mk (blk_below (g := gb234) (bk BK234) hb); have n3_ := Aside0.mk (blk_below (g := gb235) (bk BK235) hb); have s_ := step_size_ (gw_ HB) hb hg; have n4_ := Aside0.mk s_.1; have n5_ := Aside0.mk (hbox); have n6_ := Aside0.mk s_.2; clear s_; have n7_ := n6_; have l_ := blk_lt_ (g := gb232) hg (bk BK232); have n8_ := Aside0.mk (Nat.ne_of_lt l_); have n9_ := Aside0.mk (Nat.ne_of_gt l_); clear l_; have l_ := blk_lt_ (g := gb233) hg (bk BK233); have n10_ := Aside0.mk (Nat.ne_of_lt l_); have n11_ := Aside0.mk (Nat.ne_of_gt l_); clear l_; have l_ := blk_lt_ (g := gb234) hg (bk BK234); have n12_ := Aside0.mk (Nat.ne_of_lt l_); have n13_ := Aside0.mk (Nat.ne_of_gt l_); clear l_; have l_ := blk_lt_ (g := gb235) hg (bk BK235); have n14_ := Aside0.mk (Nat.ne_of_lt l_); have n15_ := Aside0.mk (Nat.ne_of_gt l_); clear l_; clear BK232; clear BK233; clear BK234; clear BK235; clear HB; have BK232 := n0_; have BK233 := n1_; have BK234 := n2_; have BK235 := n3_; have HB := n4_; have BK236 := n5_; have GW236 := n6_; have GE236 := n7_; have NB232_236 := n8_; have NB236_232 := n9_; have NB233_236 := n10_; have NB236_233 := n11_; have NB234_236 := n12_; have NB236_234 := n13_; have NB235_236 := n14_; have NB236_235 := n15_; clear n0_ n1_ n2_ n3_ n4_ n5_ n6_ n7_ n8_ n9_ n10_ n11_ n12_ n13_ n14_ n15_; clear hb hbox hg; have hnb11 := NB232_233.out; have hnc11 := NB233_232.out; have hnb12 := NB232_234.out; have hnc12 := NB234_232.out; have hnb13 := NB232_235.out; have hnc13 := NB235_232.out; have hnb14 := NB232_236.out; have hnc14 := NB236_232.out; obtain ⟨hcz15_0, hcz15_1, hcz15_2, hcz15_3, hcz15_4, hcz15_5, hcz15_6, hcz15_7, hcz15_8, hcz15_9, hcz15_10, hcz15_11, hcz15_12⟩ := blk_cells13 BK232.out; obtain ⟨hfz15_0, hfz15_1, hfz15_2, hfz15_3, hfz15_4, hfz15_5, hfz15_6, hfz15_7, hfz15_8, hfz15_9, hfz15_10, hfz15_11, hfz15_12⟩ := blk_frozens13 BK232.out; have hnb16 := NB233_234.out; have hnc16 := NB234_233.out; have hnb17 := NB233_235.out; have hnc17 := NB235_233.out; have hnb18 := NB233_236.out; have hnc18 := NB236_233.out; obtain ⟨hcz19_0, hcz19_1⟩ := blk_cells2 BK233.out; obtain ⟨hfz19_0, hfz19_1⟩ := blk_frozens2 BK233.out; have hnb20 := NB234_235.out; have hnc20 := NB235_234.out; have hnb21 := NB234_236.out; have hnc21 := NB236_234.out; obtain ⟨hcz22_0, hcz22_1, hcz22_2, hcz22_3, hcz22_4, hcz22_5⟩ := blk_cells6 BK234.out; obtain ⟨hfz22_0, hfz22_1, hfz22_2, hfz22_3, hfz22_4, hfz22_5⟩ := blk_frozens6 BK234.out; have hnb23 := NB235_236.out; have hnc23 := NB236_235.out; obtain ⟨hcz24_0, hcz24_1⟩ := blk_cells2 BK235.out; obtain ⟨hfz24_0, hfz24_1⟩ := blk_frozens2 BK235.out) | ((with_reducible refine gate_callee (f := 41) rfl ?_); refine goesL_ (some 14) rfl rfl Try.func41 (by kernel_rfl) rfl #[.agg #[.int .i64 a0_0, .int .i64 a0_1, .int .i64 a0_2, .int .i64 a0_3, .int .i64 a0_4, .int .i64 a0_5, .int .i64 a0_6, .int .i64 a0_7, .int .i64 a0_8, .int .i64 a0_9, .string a0_10, .int .i64 a0_11, .slice A0_12 l0_12.length c0_12], .int .i64 2, .agg #[.int .i64 a1_0, .int .i64 a1_1], .agg #[.int .i64 a2_0, .int .i64 a2_1, .int .i64 a2_2, .int .i64 a2_3, .int .i64 a2_4, .string a2_5], .agg #[.int .i64 a3_0, .slice A3_1 l3_1.length c3_1]] rfl (by (try simp only [List.map_toArray, List.map_cons, List.map_nil]); first | done | rfl | (simp only [List.length_drop, List.length_take]; rfl)) ?_; (with_reducible refine (instance_vote.calls k a0_0 a0_1 a0_2 a0_3 a0_4 a0_5 a0_6 a0_7 a0_8 a0_9 a0_10 a0_11 _ _ l0_12 2 a1_0 a1_1 a2_0 a2_1 a2_2 a2_3 a2_4 a2_5 a3_0 _ _ l3_1 t237 t238 t239 t240 t241 t242 t243 t244 t245 t246 t247 t248 t249 t252 _ ?side1 ?side2 ?side3 ?side4 A5.out).mono ?_); (case side1 => repeat (first | exact (Kd.C_below HR0_12.out HB.out) | (with_reducible refine Kd.C_alloc ?_ _) | (with_reducible refine Kd.C_drewN ?_ _) | (with_reducible refine Kd.C_drew ?_))); (case side2 => exact HC0_12.out); (case side3 => repeat (first | exact (Kd.C_below HR3_1.out HB.out) | (with_reducible refine Kd.C_alloc ?_ _) | (with_reducible refine Kd.C_drewN ?_ _) | (with_reducible refine Kd.C_drew ?_))); (case side4 => exact HC3_1.out); rintro e w25 ⟨v250, rfl, ho0, hb⟩; refine ⟨_, rfl, ?_⟩; have n0_ := Aside0.mk (Kd.R_lower ho0 (below_size (gw_ HB))); have n1_ := Aside0.mk (blk_below (g := gb232) (bk BK232) hb); have n2_ := Aside0.mk (blk_below (g := gb233) (bk BK233) hb); have n3_ := Aside0.mk (blk_below (g := gb234) (bk BK234) hb); have n4_ := Aside0.mk (blk_below (g := gb235) (bk BK235) hb); have n5_ := Aside0.mk (blk_below (g := gb236) (bk BK236) hb); have n6_ := Aside0.mk (below_step (gw_ HB) hb); clear BK232; clear BK233; clear BK234; clear BK235; clear BK236; clear HB; have HO251 := n0_; have BK232 := n1_; have BK233 := n2_; have BK234 := n3_; have BK235 := n4_; have BK236 := n5_; have HB := n6_; clear n0_ n1_ n2_ n3_ n4_ n5_ n6_; (try clear hb); (try clear hb2); (try clear hk); (try clear hi); (try clear ho0); obtain ⟨hcz26_0, hcz26_1, hcz26_2, hcz26_3, hcz26_4, hcz26_5, hcz26_6, hcz26_7, hcz26_8, hcz26_9, hcz26_10, hcz26_11, hcz26_12⟩ := blk_cells13 BK236.out; obtain ⟨hfz26_0, hfz26_1, hfz26_2, hfz26_3, hfz26_4, hfz26_5, hfz26_6, hfz26_7, hfz26_8, hfz26_9, hfz26_10, hfz26_11, hfz26_12⟩ := blk_frozens13 BK236.out; obtain ⟨Ao27, co27, eo27⟩ := Kd.R_slice HO251.out; subst eo27))
 refine bodyPost_ret (results_ct rfl _ _ gb236 32 #[.int .i64 t237, .int .i64 t238, .int .i64 t239, .int .i64 t240, .int .i64 t241, .int .i64 t242, .int .i64 t243, .int .i64 t244, .int .i64 t245, .int .i64 t246, .string t247, .int .i64 t248, .slice Ao27 t249.length co27] (0, 0) _ rfl (by (with_reducible repeat (first | refine blk_drewN ?_ _ | refine blk_drew ?_ | refine blk_alloc ?_ _)); refine blk_put13 (cs := #[.int .i64 0, .int .i64 0, .int .i64 0, .int .i64 0, .int .i64 0, .int .i64 0, .int .i64 0, .int .i64 0, .int .i64 0, .int .i64 0, .string (⟨#[]⟩ : ByteArray), .int .i64 0, .slice none 0 0]) ?_ rfl; (with_reducible repeat (first | refine blk_drewN ?_ _ | refine blk_drew ?_ | refine blk_alloc ?_ _)); exact BK236.out) Try.underlying32 rfl (by kernel_rfl)) rfl ?_
 exact ⟨_, by first | rfl | (simp [errW_none, errW_some] <;> rfl) | (simp [*, errW_none, errW_some] <;> rfl), by (with_reducible repeat (first | apply Kd.R_alloc | apply Kd.R_drewN | apply Kd.R_drew)); exact Kd.R_mono (Kd.R_far13 (g := gb236) (Kd.R_types HO251.out BK236.out (by decide)) (fun _ hk => hk.2)) (fun _ hk => trivial), gw_ HB⟩

end Go.Proofs.Ytkijkdifmoifaaa.P
