/- Plain Lean functions and their contracts over the translation, written by a program of this session (myprint.py, over the kit's print); no condition but each contract's own. -/
import Derived.Test.YtkijkdifmoifaaaPx0
import Derived.Test.YtkijkdifmoifaaaPx1
import Derived.Test.YtkijkdifmoifaaaPx3
namespace Go.Proofs.Ytkijkdifmoifaaa.P
open Go.RowKit Go.Proofs.YtkijkdifmoifaaaW.PrintWords Go.Proofs.YtkijkdifmoifaaaW.PrintLast Go.Proofs.YtkijkdifmoifaaaW.PrintMore
attribute [local go_sem] max2_int min2_int max_two min_two max_three min_three max_four min_four   -- for this text's walks alone
set_option linter.unusedVariables false
set_option linter.unusedSimpArgs false

attribute [local go_sem high] eqA25
def instance_vote.j0 : Nat → Int → Bool → Int → Int → Int → Int → Int → Int → Int → Int → Int → Int → ByteArray → Int → List Int → Int → Int → Int → Int → Int → Int → Int → ByteArray → Int → List Int → Option (Int × Int × Int × Int × Int × Int × Int × Int × Int × Int × ByteArray × Int × List Int × Bool)
  | 0, _, _, _, _, _, _, _, _, _, _, _, _, _, _, _, _, _, _, _, _, _, _, _, _, _ => none
  | k + 1, x1, x19, x146000, x146001, x146002, x146003, x146004, x146005, x146006, x146007, x146008, x146009, x146010, x146011, x146012, x147000, x147001, x148000, x148001, x148002, x148003, x148004, x148005, x149000, x149001 => if x19 = true then (some (x146000, x146001, x146002, x146003, x146004, x146005, x146006, x146007, x146008, x146009, x146010, x146011, x146012, true)) else (if (x146003 == x147000 && (x146004 == x147001)) = true then (if x146000 = 2 then (if x1 = 1 then (some (x146000, x146001, x146002, x146003, x146004, x146005, x146006, x146007, x146008, x146009, x146010, x146011, x146012, false)) else ((instance_own.f x1 x147000 x147001 x147000 x147001 x148000 x148001 x148002 x148003 x148004 x148005 x149000 x149001).bind fun bt166 => (some (bt166.1, bt166.2.1, bt166.2.2.1, bt166.2.2.2.1, bt166.2.2.2.2.1, bt166.2.2.2.2.2.1, bt166.2.2.2.2.2.2.1, bt166.2.2.2.2.2.2.2.1, bt166.2.2.2.2.2.2.2.2.1, bt166.2.2.2.2.2.2.2.2.2.1, bt166.2.2.2.2.2.2.2.2.2.2.1, bt166.2.2.2.2.2.2.2.2.2.2.2.1, bt166.2.2.2.2.2.2.2.2.2.2.2.2, true)))) else ((instance_own.f x1 x147000 x147001 x147000 x147001 x148000 x148001 x148002 x148003 x148004 x148005 x149000 x149001).bind fun bt181 => (some (bt181.1, bt181.2.1, bt181.2.2.1, bt181.2.2.2.1, bt181.2.2.2.2.1, bt181.2.2.2.2.2.1, bt181.2.2.2.2.2.2.1, bt181.2.2.2.2.2.2.2.1, bt181.2.2.2.2.2.2.2.2.1, bt181.2.2.2.2.2.2.2.2.2.1, bt181.2.2.2.2.2.2.2.2.2.2.1, bt181.2.2.2.2.2.2.2.2.2.2.2.1, bt181.2.2.2.2.2.2.2.2.2.2.2.2, true)))) else ((instance_own.f x1 x147000 x147001 x147000 x147001 x148000 x148001 x148002 x148003 x148004 x148005 x149000 x149001).bind fun bt196 => (some (bt196.1, bt196.2.1, bt196.2.2.1, bt196.2.2.2.1, bt196.2.2.2.2.1, bt196.2.2.2.2.2.1, bt196.2.2.2.2.2.2.1, bt196.2.2.2.2.2.2.2.1, bt196.2.2.2.2.2.2.2.2.1, bt196.2.2.2.2.2.2.2.2.2.1, bt196.2.2.2.2.2.2.2.2.2.2.1, bt196.2.2.2.2.2.2.2.2.2.2.2.1, bt196.2.2.2.2.2.2.2.2.2.2.2.2, true))))
def instance_vote.f (k : Nat) (a0_0 : Int) (a0_1 : Int) (a0_2 : Int) (a0_3 : Int) (a0_4 : Int) (a0_5 : Int) (a0_6 : Int) (a0_7 : Int) (a0_8 : Int) (a0_9 : Int) (a0_10 : ByteArray) (a0_11 : Int) (l0_12 : List Int) (a1 : Int) (a2_0 : Int) (a2_1 : Int) (a3_0 : Int) (a3_1 : Int) (a3_2 : Int) (a3_3 : Int) (a3_4 : Int) (a3_5 : ByteArray) (a4_0 : Int) (l4_1 : List Int) : Option (Int × Int × Int × Int × Int × Int × Int × Int × Int × Int × ByteArray × Int × List Int × Bool) := (instance_own.f a0_0 a0_1 a0_2 a0_3 a0_4 a0_5 a0_6 a0_7 a0_8 a0_9 a0_10 a0_11 l0_12).bind fun bt150 => ((instance_late.f k bt150.1 bt150.2.1 bt150.2.2.1 bt150.2.2.2.1 bt150.2.2.2.2.1 bt150.2.2.2.2.2.1 bt150.2.2.2.2.2.2.1 bt150.2.2.2.2.2.2.2.1 bt150.2.2.2.2.2.2.2.2.1 bt150.2.2.2.2.2.2.2.2.2.1 bt150.2.2.2.2.2.2.2.2.2.2.1 bt150.2.2.2.2.2.2.2.2.2.2.2.1 bt150.2.2.2.2.2.2.2.2.2.2.2.2 a2_0 a2_1).bind fun t165 => (if t165 = true then (some (bt150.1, bt150.2.1, bt150.2.2.1, bt150.2.2.2.1, bt150.2.2.2.2.1, bt150.2.2.2.2.2.1, bt150.2.2.2.2.2.2.1, bt150.2.2.2.2.2.2.2.1, bt150.2.2.2.2.2.2.2.2.1, bt150.2.2.2.2.2.2.2.2.2.1, bt150.2.2.2.2.2.2.2.2.2.2.1, bt150.2.2.2.2.2.2.2.2.2.2.2.1, bt150.2.2.2.2.2.2.2.2.2.2.2.2, false)) else (if (bt150.2.2.2.1 == a2_0 && (bt150.2.2.2.2.1 == a2_1)) = true then (instance_vote.j0 k a1 (bt150.1 == a1) bt150.1 bt150.2.1 bt150.2.2.1 bt150.2.2.2.1 bt150.2.2.2.2.1 bt150.2.2.2.2.2.1 bt150.2.2.2.2.2.2.1 bt150.2.2.2.2.2.2.2.1 bt150.2.2.2.2.2.2.2.2.1 bt150.2.2.2.2.2.2.2.2.2.1 bt150.2.2.2.2.2.2.2.2.2.2.1 bt150.2.2.2.2.2.2.2.2.2.2.2.1 bt150.2.2.2.2.2.2.2.2.2.2.2.2 a2_0 a2_1 a3_0 a3_1 a3_2 a3_3 a3_4 a3_5 a4_0 l4_1) else (instance_vote.j0 k a1 false bt150.1 bt150.2.1 bt150.2.2.1 bt150.2.2.2.1 bt150.2.2.2.2.1 bt150.2.2.2.2.2.1 bt150.2.2.2.2.2.2.1 bt150.2.2.2.2.2.2.2.1 bt150.2.2.2.2.2.2.2.2.1 bt150.2.2.2.2.2.2.2.2.2.1 bt150.2.2.2.2.2.2.2.2.2.2.1 bt150.2.2.2.2.2.2.2.2.2.2.2.1 bt150.2.2.2.2.2.2.2.2.2.2.2.2 a2_0 a2_1 a3_0 a3_1 a3_2 a3_3 a3_4 a3_5 a4_0 l4_1))))
set_option maxHeartbeats 8000000 in
set_option maxRecDepth 100000 in
theorem instance_vote.calls (k : Nat) (a0_0 : Int) (a0_1 : Int) (a0_2 : Int) (a0_3 : Int) (a0_4 : Int) (a0_5 : Int) (a0_6 : Int) (a0_7 : Int) (a0_8 : Int) (a0_9 : Int) (a0_10 : ByteArray) (a0_11 : Int) (A0_12 : Option Addr) (c0_12 : Nat) (l0_12 : List Int) (a1 : Int) (a2_0 : Int) (a2_1 : Int) (a3_0 : Int) (a3_1 : Int) (a3_2 : Int) (a3_3 : Int) (a3_4 : Int) (a3_5 : ByteArray) (a4_0 : Int) (A4_1 : Option Addr) (c4_1 : Nat) (l4_1 : List Int) (r1 : Int) (r2 : Int) (r3 : Int) (r4 : Int) (r5 : Int) (r6 : Int) (r7 : Int) (r8 : Int) (r9 : Int) (r10 : Int) (r11 : ByteArray) (r12 : Int) (r13 : List Int) (r14 : Bool) (w : World) (hr0_12 : Kd.C (Kd.int .i64) w A0_12 l0_12.length l0_12) (hc0_12 : l0_12.length ≤ c0_12) (hr4_1 : Kd.C (Kd.int .i64) w A4_1 l4_1.length l4_1) (hc4_1 : l4_1.length ≤ c4_1) (h : instance_vote.f k a0_0 a0_1 a0_2 a0_3 a0_4 a0_5 a0_6 a0_7 a0_8 a0_9 a0_10 a0_11 l0_12 a1 a2_0 a2_1 a3_0 a3_1 a3_2 a3_3 a3_4 a3_5 a4_0 l4_1 = some (r1, r2, r3, r4, r5, r6, r7, r8, r9, r10, r11, r12, r13, r14)) :
    Calls Try.prog 41 #[.agg #[.int .i64 a0_0, .int .i64 a0_1, .int .i64 a0_2, .int .i64 a0_3, .int .i64 a0_4, .int .i64 a0_5, .int .i64 a0_6, .int .i64 a0_7, .int .i64 a0_8, .int .i64 a0_9, .string a0_10, .int .i64 a0_11, .slice A0_12 l0_12.length c0_12], .int .i64 a1, .agg #[.int .i64 a2_0, .int .i64 a2_1], .agg #[.int .i64 a3_0, .int .i64 a3_1, .int .i64 a3_2, .int .i64 a3_3, .int .i64 a3_4, .string a3_5], .agg #[.int .i64 a4_0, .slice A4_1 l4_1.length c4_1]] w fun e w' => ∃ v12_ : Value, e = .returned (.tuple #[.agg #[.int .i64 r1, .int .i64 r2, .int .i64 r3, .int .i64 r4, .int .i64 r5, .int .i64 r6, .int .i64 r7, .int .i64 r8, .int .i64 r9, .int .i64 r10, .string r11, .int .i64 r12, v12_], .bool r14]) ∧ Kd.R (Kd.int .i64) 3 w' w.heap.size (fun _ => True) v12_ r13 ∧ Below w.heap.size w w' := by
  have hu32 := Try.underlying32
  have hu25 := Try.underlying25
  have hu27 := Try.underlying27
  have hu30 := Try.underlying30
  have HR0_12 := Aside0.mk hr0_12
  have HC0_12 := Aside0.mk hc0_12
  clear hr0_12 hc0_12
  have HR4_1 := Aside0.mk hr4_1
  have HC4_1 := Aside0.mk hc4_1
  clear hr4_1 hc4_1
  have HB := Aside0.mk (Below.refl w.heap.size w)
  have H : ((instance_own.f a0_0 a0_1 a0_2 a0_3 a0_4 a0_5 a0_6 a0_7 a0_8 a0_9 a0_10 a0_11 l0_12).bind fun bt150 => ((instance_late.f k bt150.1 bt150.2.1 bt150.2.2.1 bt150.2.2.2.1 bt150.2.2.2.2.1 bt150.2.2.2.2.2.1 bt150.2.2.2.2.2.2.1 bt150.2.2.2.2.2.2.2.1 bt150.2.2.2.2.2.2.2.2.1 bt150.2.2.2.2.2.2.2.2.2.1 bt150.2.2.2.2.2.2.2.2.2.2.1 bt150.2.2.2.2.2.2.2.2.2.2.2.1 bt150.2.2.2.2.2.2.2.2.2.2.2.2 a2_0 a2_1).bind fun t165 => (if t165 = true then (some (bt150.1, bt150.2.1, bt150.2.2.1, bt150.2.2.2.1, bt150.2.2.2.2.1, bt150.2.2.2.2.2.1, bt150.2.2.2.2.2.2.1, bt150.2.2.2.2.2.2.2.1, bt150.2.2.2.2.2.2.2.2.1, bt150.2.2.2.2.2.2.2.2.2.1, bt150.2.2.2.2.2.2.2.2.2.2.1, bt150.2.2.2.2.2.2.2.2.2.2.2.1, bt150.2.2.2.2.2.2.2.2.2.2.2.2, false)) else (if (bt150.2.2.2.1 == a2_0 && (bt150.2.2.2.2.1 == a2_1)) = true then (instance_vote.j0 k a1 (bt150.1 == a1) bt150.1 bt150.2.1 bt150.2.2.1 bt150.2.2.2.1 bt150.2.2.2.2.1 bt150.2.2.2.2.2.1 bt150.2.2.2.2.2.2.1 bt150.2.2.2.2.2.2.2.1 bt150.2.2.2.2.2.2.2.2.1 bt150.2.2.2.2.2.2.2.2.2.1 bt150.2.2.2.2.2.2.2.2.2.2.1 bt150.2.2.2.2.2.2.2.2.2.2.2.1 bt150.2.2.2.2.2.2.2.2.2.2.2.2 a2_0 a2_1 a3_0 a3_1 a3_2 a3_3 a3_4 a3_5 a4_0 l4_1) else (instance_vote.j0 k a1 false bt150.1 bt150.2.1 bt150.2.2.1 bt150.2.2.2.1 bt150.2.2.2.2.1 bt150.2.2.2.2.2.1 bt150.2.2.2.2.2.2.1 bt150.2.2.2.2.2.2.2.1 bt150.2.2.2.2.2.2.2.2.1 bt150.2.2.2.2.2.2.2.2.2.1 bt150.2.2.2.2.2.2.2.2.2.2.1 bt150.2.2.2.2.2.2.2.2.2.2.2.1 bt150.2.2.2.2.2.2.2.2.2.2.2.2 a2_0 a2_1 a3_0 a3_1 a3_2 a3_3 a3_4 a3_5 a4_0 l4_1))))) = some (r1, r2, r3, r4, r5, r6, r7, r8, r9, r10, r11, r12, r13, r14) := h
  clear h
  replace H := Option.bind_eq_some_iff.mp H
  obtain ⟨⟨t150, t151, t152, t153, t154, t155, t156, t157, t158, t159, t160, t161, t162⟩, A60, H⟩ := H
  replace H : ((instance_late.f k t150 t151 t152 t153 t154 t155 t156 t157 t158 t159 t160 t161 t162 a2_0 a2_1).bind fun t165 => (if t165 = true then (some (t150, t151, t152, t153, t154, t155, t156, t157, t158, t159, t160, t161, t162, false)) else (if (t153 == a2_0 && (t154 == a2_1)) = true then (instance_vote.j0 k a1 (t150 == a1) t150 t151 t152 t153 t154 t155 t156 t157 t158 t159 t160 t161 t162 a2_0 a2_1 a3_0 a3_1 a3_2 a3_3 a3_4 a3_5 a4_0 l4_1) else (instance_vote.j0 k a1 false t150 t151 t152 t153 t154 t155 t156 t157 t158 t159 t160 t161 t162 a2_0 a2_1 a3_0 a3_1 a3_2 a3_3 a3_4 a3_5 a4_0 l4_1)))) = some (r1, r2, r3, r4, r5, r6, r7, r8, r9, r10, r11, r12, r13, r14) := H
  have A6 := Aside0.mk A60
  clear A60
  replace H := Option.bind_eq_some_iff.mp H
  obtain ⟨t165, A70, H⟩ := H
  replace H : (if t165 = true then (some (t150, t151, t152, t153, t154, t155, t156, t157, t158, t159, t160, t161, t162, false)) else (if (t153 == a2_0 && (t154 == a2_1)) = true then (instance_vote.j0 k a1 (t150 == a1) t150 t151 t152 t153 t154 t155 t156 t157 t158 t159 t160 t161 t162 a2_0 a2_1 a3_0 a3_1 a3_2 a3_3 a3_4 a3_5 a4_0 l4_1) else (instance_vote.j0 k a1 false t150 t151 t152 t153 t154 t155 t156 t157 t158 t159 t160 t161 t162 a2_0 a2_1 a3_0 a3_1 a3_2 a3_3 a3_4 a3_5 a4_0 l4_1))) = some (r1, r2, r3, r4, r5, r6, r7, r8, r9, r10, r11, r12, r13, r14) := H
  have A7 := Aside0.mk A70
  clear A70
  by_cases c8 : t165 = true
  · subst c8
    have H1 : (some (t150, t151, t152, t153, t154, t155, t156, t157, t158, t159, t160, t161, t162, false)) = some (r1, r2, r3, r4, r5, r6, r7, r8, r9, r10, r11, r12, r13, r14) := by rw [if_pos rfl] at H; exact H
    clear H
    have H := H1
    clear H1
    simp only [Option.some.injEq, Prod.mk.injEq] at H
    obtain ⟨rfl, rfl, rfl, rfl, rfl, rfl, rfl, rfl, rfl, rfl, rfl, rfl, rfl, rfl⟩ := H
    go_enter Try.func41, Try.ntmps41
    go_wp2_with (first | ((with_reducible refine gate_dst (N := 5) rfl ?_); refine box_event ?hg (N := 5) ?hd (cs := #[.int .i64 a0_0, .int .i64 a0_1, .int .i64 a0_2, .int .i64 a0_3, .int .i64 a0_4, .int .i64 a0_5, .int .i64 a0_6, .int .i64 a0_7, .int .i64 a0_8, .int .i64 a0_9, .string a0_10, .int .i64 a0_11, .slice A0_12 l0_12.length c0_12]) (t := 32) ?hr ?_; (case hd => rfl); (case hg => rfl); (case hr => first | (go_simp; done) | (go_simp; rfl)); intro gb145 hg w9 hbox hb; have n0_ := Aside0.mk (below_step (by repeat (first | (with_reducible first | exact HB.out | apply below_alloc | apply pw_below_drewN | apply below_drew1) | exact HB.out)) hb); have n1_ := Aside0.mk (hbox); have n2_ := Aside0.mk ((by rw [hg]; exact (below_size (by repeat (first | (with_reducible first | exact HB.out | apply below_alloc | apply pw_below_drewN | apply below_drew1) | exact HB.out))) : w.heap.size ≤ gb145)); have n3_ := Aside0.mk ((by rw [hg]; exact (below_size (by repeat (first | (with_reducible first | exact HB.out | apply below_alloc | apply pw_below_drewN | apply below_drew1) | exact HB.out))) : w.heap.size ≤ gb145)); clear HB; have HB := n0_; have BK145 := n1_; have GW145 := n2_; have GE145 := n3_; clear n0_ n1_ n2_ n3_; clear hb hbox hg) | ((with_reducible refine gate_dst (N := 7) rfl ?_); refine box_event ?hg (N := 7) ?hd (cs := #[.int .i64 a2_0, .int .i64 a2_1]) (t := 25) ?hr ?_; (case hd => rfl); (case hg => rfl); (case hr => first | (go_simp; done) | (go_simp; rfl)); intro gb146 hg w10 hbox hb; have n0_ := Aside0.mk (blk_below (g := gb145) (by (with_reducible repeat (first | refine blk_drewN ?_ _ | refine blk_drew ?_ | refine blk_alloc ?_ _)); exact BK145.out) hb); have n1_ := Aside0.mk (below_step (by repeat (first | (with_reducible first | exact HB.out | apply below_alloc | apply pw_below_drewN | apply below_drew1 | refine below_set ?_ GE145.out) | exact HB.out)) hb); have n2_ := Aside0.mk (hbox); have n3_ := Aside0.mk ((by rw [hg]; exact (below_size (by repeat (first | (with_reducible first | exact HB.out | apply below_alloc | apply pw_below_drewN | apply below_drew1 | refine below_set ?_ GE145.out) | exact HB.out))) : w.heap.size ≤ gb146)); have n4_ := Aside0.mk ((by rw [hg]; exact (below_size (by repeat (first | (with_reducible first | exact HB.out | apply below_alloc | apply pw_below_drewN | apply below_drew1 | refine below_set ?_ GE145.out) | exact HB.out))) : w.heap.size ≤ gb146)); have n5_ := Aside0.mk ((by rw [hg]; exact Nat.ne_of_lt (blk_lt (g := gb145) (by (with_reducible repeat (first | refine blk_drewN ?_ _ | refine blk_drew ?_ | refine blk_alloc ?_ _)); exact BK145.out)) : gb145 ≠ gb146)); have n6_ := Aside0.mk ((by rw [hg]; exact Nat.ne_of_gt (blk_lt (g := gb145) (by (with_reducible repeat (first | refine blk_drewN ?_ _ | refine blk_drew ?_ | refine blk_alloc ?_ _)); exact BK145.out)) : gb146 ≠ gb145)); clear BK145; clear HB; have BK145 := n0_; have HB := n1_; have BK146 := n2_; have GW146 := n3_; have GE146 := n4_; have NB145_146 := n5_; have NB146_145 := n6_; clear n0_ n1_ n2_ n3_ n4_ n5_ n6_; clear hb hbox hg) | ((with_reducible refine gate_dst (N := 8) rfl ?_); refine box_event ?hg (N := 8) ?hd (cs := #[.int .i64 a3_0, .int .i64 a3_1, .int .i64 a3_2, .int .i64 a3_3, .int .i64 a3_4, .string a3_5]) (t := 27) ?hr ?_; (case hd => rfl); (case hg => rfl); (case hr => first | (go_simp; done) | (go_simp; rfl)); intro gb147 hg w11 hbox hb; have n0_ := Aside0.mk (blk_below (g := gb145) (by (with_reducible repeat (first | refine blk_drewN ?_ _ | refine blk_drew ?_ | refine blk_alloc ?_ _)); exact BK145.out) hb); have n1_ := Aside0.mk (blk_below (g := gb146) (by (with_reducible repeat (first | refine blk_drewN ?_ _ | refine blk_drew ?_ | refine blk_alloc ?_ _)); exact BK146.out) hb); have n2_ := Aside0.mk (below_step (by repeat (first | (with_reducible first | exact HB.out | apply below_alloc | apply pw_below_drewN | apply below_drew1 | refine below_set ?_ GE145.out | refine below_set ?_ GE146.out) | exact HB.out)) hb); have n3_ := Aside0.mk (hbox); have n4_ := Aside0.mk ((by rw [hg]; exact (below_size (by repeat (first | (with_reducible first | exact HB.out | apply below_alloc | apply pw_below_drewN | apply below_drew1 | refine below_set ?_ GE145.out | refine below_set ?_ GE146.out) | exact HB.out))) : w.heap.size ≤ gb147)); have n5_ := Aside0.mk ((by rw [hg]; exact (below_size (by repeat (first | (with_reducible first | exact HB.out | apply below_alloc | apply pw_below_drewN | apply below_drew1 | refine below_set ?_ GE145.out | refine below_set ?_ GE146.out) | exact HB.out))) : w.heap.size ≤ gb147)); have n6_ := Aside0.mk ((by rw [hg]; exact Nat.ne_of_lt (blk_lt (g := gb145) (by (with_reducible repeat (first | refine blk_drewN ?_ _ | refine blk_drew ?_ | refine blk_alloc ?_ _)); exact BK145.out)) : gb145 ≠ gb147)); have n7_ := Aside0.mk ((by rw [hg]; exact Nat.ne_of_gt (blk_lt (g := gb145) (by (with_reducible repeat (first | refine blk_drewN ?_ _ | refine blk_drew ?_ | refine blk_alloc ?_ _)); exact BK145.out)) : gb147 ≠ gb145)); have n8_ := Aside0.mk ((by rw [hg]; exact Nat.ne_of_lt (blk_lt (g := gb146) (by (with_reducible repeat (first | refine blk_drewN ?_ _ | refine blk_drew ?_ | refine blk_alloc ?_ _)); exact BK146.out)) : gb146 ≠ gb147)); have n9_ := Aside0.mk ((by rw [hg]; exact Nat.ne_of_gt (blk_lt (g := gb146) (by (with_reducible repeat (first | refine blk_drewN ?_ _ | refine blk_drew ?_ | refine blk_alloc ?_ _)); exact BK146.out)) : gb147 ≠ gb146)); clear BK145; clear BK146; clear HB; have BK145 := n0_; have BK146 := n1_; have HB := n2_; have BK147 := n3_; have GW147 := n4_; have GE147 := n5_; have NB145_147 := n6_; have NB147_145 := n7_; have NB146_147 := n8_; have NB147_146 := n9_; clear n0_ n1_ n2_ n3_ n4_ n5_ n6_ n7_ n8_ n9_; clear hb hbox hg) | ((with_reducible refine gate_dst (N := 9) rfl ?_); refine box_event ?hg (N := 9) ?hd (cs := #[.int .i64 a4_0, .slice A4_1 l4_1.length c4_1]) (t := 30) ?hr ?_; (case hd => rfl); (case hg => rfl); (case hr => first | (go_simp; done) | (go_simp; rfl)); intro gb148 hg w12 hbox hb; have n0_ := Aside0.mk (blk_below (g := gb145) (by (with_reducible repeat (first | refine blk_drewN ?_ _ | refine blk_drew ?_ | refine blk_alloc ?_ _)); exact BK145.out) hb); have n1_ := Aside0.mk (blk_below (g := gb146) (by (with_reducible repeat (first | refine blk_drewN ?_ _ | refine blk_drew ?_ | refine blk_alloc ?_ _)); exact BK146.out) hb); have n2_ := Aside0.mk (blk_below (g := gb147) (by (with_reducible repeat (first | refine blk_drewN ?_ _ | refine blk_drew ?_ | refine blk_alloc ?_ _)); exact BK147.out) hb); have n3_ := Aside0.mk (below_step (by repeat (first | (with_reducible first | exact HB.out | apply below_alloc | apply pw_below_drewN | apply below_drew1 | refine below_set ?_ GE145.out | refine below_set ?_ GE146.out | refine below_set ?_ GE147.out) | exact HB.out)) hb); have n4_ := Aside0.mk (hbox); have n5_ := Aside0.mk ((by rw [hg]; exact (below_size (by repeat (first | (with_reducible first | exact HB.out | apply below_alloc | apply pw_below_drewN | apply below_drew1 | refine below_set ?_ GE145.out | refine below_set ?_ GE146.out | refine below_set ?_ GE147.out) | exact HB.out))) : w.heap.size ≤ gb148)); have n6_ := Aside0.mk ((by rw [hg]; exact (below_size (by repeat (first | (with_reducible first | exact HB.out | apply below_alloc | apply pw_below_drewN | apply below_drew1 | refine below_set ?_ GE145.out | refine below_set ?_ GE146.out | refine below_set ?_ GE147.out) | exact HB.out))) : w.heap.size ≤ gb148)); have n7_ := Aside0.mk ((by rw [hg]; exact Nat.ne_of_lt (blk_lt (g := gb145) (by (with_reducible repeat (first | refine blk_drewN ?_ _ | refine blk_drew ?_ | refine blk_alloc ?_ _)); exact BK145.out)) : gb145 ≠ gb148)); have n8_ := Aside0.mk ((by rw [hg]; exact Nat.ne_of_gt (blk_lt (g := gb145) (by (with_reducible repeat (first | refine blk_drewN ?_ _ | refine blk_drew ?_ | refine blk_alloc ?_ _)); exact BK145.out)) : gb148 ≠ gb145)); have n9_ := Aside0.mk ((by rw [hg]; exact Nat.ne_of_lt (blk_lt (g := gb146) (by (with_reducible repeat (first | refine blk_drewN ?_ _ | refine blk_drew ?_ | refine blk_alloc ?_ _)); exact BK146.out)) : gb146 ≠ gb148)); have n10_ := Aside0.mk ((by rw [hg]; exact Nat.ne_of_gt (blk_lt (g := gb146) (by (with_reducible repeat (first | refine blk_drewN ?_ _ | refine blk_drew ?_ | refine blk_alloc ?_ _)); exact BK146.out)) : gb148 ≠ gb146)); have n11_ := Aside0.mk ((by rw [hg]; exact Nat.ne_of_lt (blk_lt (g := gb147) (by (with_reducible repeat (first | refine blk_drewN ?_ _ | refine blk_drew ?_ | refine blk_alloc ?_ _)); exact BK147.out)) : gb147 ≠ gb148)); have n12_ := Aside0.mk ((by rw [hg]; exact Nat.ne_of_gt (blk_lt (g := gb147) (by (with_reducible repeat (first | refine blk_drewN ?_ _ | refine blk_drew ?_ | refine blk_alloc ?_ _)); exact BK147.out)) : gb148 ≠ gb147)); clear BK145; clear BK146; clear BK147; clear HB; have BK145 := n0_; have BK146 := n1_; have BK147 := n2_; have HB := n3_; have BK148 := n4_; have GW148 := n5_; have GE148 := n6_; have NB145_148 := n7_; have NB148_145 := n8_; have NB146_148 := n9_; have NB148_146 := n10_; have NB147_148 := n11_; have NB148_147 := n12_; clear n0_ n1_ n2_ n3_ n4_ n5_ n6_ n7_ n8_ n9_ n10_ n11_ n12_; clear hb hbox hg) | ((with_reducible refine gate_dst (N := 10) rfl ?_); refine box_event ?hg (N := 10) ?hd (cs := #[.int .i64 0, .int .i64 0, .int .i64 0, .int .i64 0, .int .i64 0, .int .i64 0, .int .i64 0, .int .i64 0, .int .i64 0, .int .i64 0, .string (⟨#[]⟩ : ByteArray), .int .i64 0, .slice none 0 0]) (t := 32) ?hr ?_; (case hd => rfl); (case hg => rfl); (case hr => first | (go_simp; done) | (go_simp; rfl)); intro gb149 hg w13 hbox hb; have n0_ := Aside0.mk (blk_below (g := gb145) (by (with_reducible repeat (first | refine blk_drewN ?_ _ | refine blk_drew ?_ | refine blk_alloc ?_ _)); exact BK145.out) hb); have n1_ := Aside0.mk (blk_below (g := gb146) (by (with_reducible repeat (first | refine blk_drewN ?_ _ | refine blk_drew ?_ | refine blk_alloc ?_ _)); exact BK146.out) hb); have n2_ := Aside0.mk (blk_below (g := gb147) (by (with_reducible repeat (first | refine blk_drewN ?_ _ | refine blk_drew ?_ | refine blk_alloc ?_ _)); exact BK147.out) hb); have n3_ := Aside0.mk (blk_below (g := gb148) (by (with_reducible repeat (first | refine blk_drewN ?_ _ | refine blk_drew ?_ | refine blk_alloc ?_ _)); exact BK148.out) hb); have n4_ := Aside0.mk (below_step (by repeat (first | (with_reducible first | exact HB.out | apply below_alloc | apply pw_below_drewN | apply below_drew1 | refine below_set ?_ GE145.out | refine below_set ?_ GE146.out | refine below_set ?_ GE147.out | refine below_set ?_ GE148.out) | exact HB.out)) hb); have n5_ := Aside0.mk (hbox); have n6_ := Aside0.mk ((by rw [hg]; exact (below_size (by repeat (first | (with_reducible first | exact HB.out | apply below_alloc | apply pw_below_drewN | apply below_drew1 | refine below_set ?_ GE145.out | refine below_set ?_ GE146.out | refine below_set ?_ GE147.out | refine below_set ?_ GE148.out) | exact HB.out))) : w.heap.size ≤ gb149)); have n7_ := Aside0.mk ((by rw [hg]; exact (below_size (by repeat (first | (with_reducible first | exact HB.out | apply below_alloc | apply pw_below_drewN | apply below_drew1 | refine below_set ?_ GE145.out | refine below_set ?_ GE146.out | refine below_set ?_ GE147.out | refine below_set ?_ GE148.out) | exact HB.out))) : w.heap.size ≤ gb149)); have n8_ := Aside0.mk ((by rw [hg]; exact Nat.ne_of_lt (blk_lt (g := gb145) (by (with_reducible repeat (first | refine blk_drewN ?_ _ | refine blk_drew ?_ | refine blk_alloc ?_ _)); exact BK145.out)) : gb145 ≠ gb149)); have n9_ := Aside0.mk ((by rw [hg]; exact Nat.ne_of_gt (blk_lt (g := gb145) (by (with_reducible repeat (first | refine blk_drewN ?_ _ | refine blk_drew ?_ | refine blk_alloc ?_ _)); exact BK145.out)) : gb149 ≠ gb145)); have n10_ := Aside0.mk ((by rw [hg]; exact Nat.ne_of_lt (blk_lt (g := gb146) (by (with_reducible repeat (first | refine blk_drewN ?_ _ | refine blk_drew ?_ | refine blk_alloc ?_ _)); exact BK146.out)) : gb146 ≠ gb149)); have n11_ := Aside0.mk ((by rw [hg]; exact Nat.ne_of_gt (blk_lt (g := gb146) (by (with_reducible repeat (first | refine blk_drewN ?_ _ | refine blk_drew ?_ | refine blk_alloc ?_ _)); exact BK146.out)) : gb149 ≠ gb146)); have n12_ := Aside0.mk ((by rw [hg]; exact Nat.ne_of_lt (blk_lt (g := gb147) (by (with_reducible repeat (first | refine blk_drewN ?_ _ | refine blk_drew ?_ | refine blk_alloc ?_ _)); exact BK147.out)) : gb147 ≠ gb149)); have n13_ := Aside0.mk ((by rw [hg]; exact Nat.ne_of_gt (blk_lt (g := gb147) (by (with_reducible repeat (first | refine blk_drewN ?_ _ | refine blk_drew ?_ | refine blk_alloc ?_ _)); exact BK147.out)) : gb149 ≠ gb147)); have n14_ := Aside0.mk ((by rw [hg]; exact Nat.ne_of_lt (blk_lt (g := gb148) (by (with_reducible repeat (first | refine blk_drewN ?_ _ | refine blk_drew ?_ | refine blk_alloc ?_ _)); exact BK148.out)) : gb148 ≠ gb149)); have n15_ := Aside0.mk ((by rw [hg]; exact Nat.ne_of_gt (blk_lt (g := gb148) (by (with_reducible repeat (first | refine blk_drewN ?_ _ | refine blk_drew ?_ | refine blk_alloc ?_ _)); exact BK148.out)) : gb149 ≠ gb148)); clear BK145; clear BK146; clear BK147; clear BK148; clear HB; have BK145 := n0_; have BK146 := n1_; have BK147 := n2_; have BK148 := n3_; have HB := n4_; have BK149 := n5_; have GW149 := n6_; have GE149 := n7_; have NB145_149 := n8_; have NB149_145 := n9_; have NB146_149 := n10_; have NB149_146 := n11_; have NB147_149 := n12_; have NB149_147 := n13_; have NB148_149 := n14_; have NB149_148 := n15_; clear n0_ n1_ n2_ n3_ n4_ n5_ n6_ n7_ n8_ n9_ n10_ n11_ n12_ n13_ n14_ n15_; clear hb hbox hg; have hnb14 := NB145_146.out; have hnc14 := NB146_145.out; have hnb15 := NB145_147.out; have hnc15 := NB147_145.out; have hnb16 := NB145_148.out; have hnc16 := NB148_145.out; have hnb17 := NB145_149.out; have hnc17 := NB149_145.out; have hcz18_0 : w13.cell? ⟨gb145, 0, none⟩ = some (.int .i64 a0_0) := (blk_cell BK145.out 0).trans rfl; have hcz18_1 : w13.cell? ⟨gb145, 1, none⟩ = some (.int .i64 a0_1) := (blk_cell BK145.out 1).trans rfl; have hcz18_2 : w13.cell? ⟨gb145, 2, none⟩ = some (.int .i64 a0_2) := (blk_cell BK145.out 2).trans rfl; have hcz18_3 : w13.cell? ⟨gb145, 3, none⟩ = some (.int .i64 a0_3) := (blk_cell BK145.out 3).trans rfl; have hcz18_4 : w13.cell? ⟨gb145, 4, none⟩ = some (.int .i64 a0_4) := (blk_cell BK145.out 4).trans rfl; have hcz18_5 : w13.cell? ⟨gb145, 5, none⟩ = some (.int .i64 a0_5) := (blk_cell BK145.out 5).trans rfl; have hcz18_6 : w13.cell? ⟨gb145, 6, none⟩ = some (.int .i64 a0_6) := (blk_cell BK145.out 6).trans rfl; have hcz18_7 : w13.cell? ⟨gb145, 7, none⟩ = some (.int .i64 a0_7) := (blk_cell BK145.out 7).trans rfl; have hcz18_8 : w13.cell? ⟨gb145, 8, none⟩ = some (.int .i64 a0_8) := (blk_cell BK145.out 8).trans rfl; have hcz18_9 : w13.cell? ⟨gb145, 9, none⟩ = some (.int .i64 a0_9) := (blk_cell BK145.out 9).trans rfl; have hcz18_10 : w13.cell? ⟨gb145, 10, none⟩ = some (.string a0_10) := (blk_cell BK145.out 10).trans rfl; have hcz18_11 : w13.cell? ⟨gb145, 11, none⟩ = some (.int .i64 a0_11) := (blk_cell BK145.out 11).trans rfl; have hcz18_12 : w13.cell? ⟨gb145, 12, none⟩ = some (.slice A0_12 l0_12.length c0_12) := (blk_cell BK145.out 12).trans rfl; have hfz18_0 := blk_frozen BK145.out 0; have hfz18_1 := blk_frozen BK145.out 1; have hfz18_2 := blk_frozen BK145.out 2; have hfz18_3 := blk_frozen BK145.out 3; have hfz18_4 := blk_frozen BK145.out 4; have hfz18_5 := blk_frozen BK145.out 5; have hfz18_6 := blk_frozen BK145.out 6; have hfz18_7 := blk_frozen BK145.out 7; have hfz18_8 := blk_frozen BK145.out 8; have hfz18_9 := blk_frozen BK145.out 9; have hfz18_10 := blk_frozen BK145.out 10; have hfz18_11 := blk_frozen BK145.out 11; have hfz18_12 := blk_frozen BK145.out 12) | ((with_reducible refine gate_callee (f := 39) rfl ?_); refine goesL_ (some 13) rfl rfl Try.func39 (by kernel_rfl) rfl #[.agg #[.int .i64 a0_0, .int .i64 a0_1, .int .i64 a0_2, .int .i64 a0_3, .int .i64 a0_4, .int .i64 a0_5, .int .i64 a0_6, .int .i64 a0_7, .int .i64 a0_8, .int .i64 a0_9, .string a0_10, .int .i64 a0_11, .slice A0_12 l0_12.length c0_12]] rfl (by (try simp only [List.map_toArray, List.map_cons, List.map_nil]); first | done | rfl | (simp only [List.length_drop, List.length_take]; rfl)) ?_; (with_reducible refine (instance_own.calls a0_0 a0_1 a0_2 a0_3 a0_4 a0_5 a0_6 a0_7 a0_8 a0_9 a0_10 a0_11 _ _ l0_12 t150 t151 t152 t153 t154 t155 t156 t157 t158 t159 t160 t161 t162 _ ?side1 ?side2 A6.out).mono ?_); (case side1 => repeat (first | exact (Kd.C_below HR0_12.out HB.out) | (with_reducible refine Kd.C_alloc ?_ _) | (with_reducible refine Kd.C_drewN ?_ _) | (with_reducible refine Kd.C_drew ?_))); (case side2 => exact HC0_12.out); rintro e w19 ⟨v163, rfl, ho0, hb⟩; refine ⟨_, rfl, ?_⟩; have n0_ := Aside0.mk (Kd.R_lower ho0 (below_size (by repeat (first | (with_reducible first | exact HB.out | apply below_alloc | apply pw_below_drewN | apply below_drew1 | refine below_set ?_ GE145.out | refine below_set ?_ GE146.out | refine below_set ?_ GE147.out | refine below_set ?_ GE148.out | refine below_set ?_ GE149.out) | exact HB.out)))); have n1_ := Aside0.mk (blk_below (g := gb145) (by (with_reducible repeat (first | refine blk_drewN ?_ _ | refine blk_drew ?_ | refine blk_alloc ?_ _)); exact BK145.out) hb); have n2_ := Aside0.mk (blk_below (g := gb146) (by (with_reducible repeat (first | refine blk_drewN ?_ _ | refine blk_drew ?_ | refine blk_alloc ?_ _)); exact BK146.out) hb); have n3_ := Aside0.mk (blk_below (g := gb147) (by (with_reducible repeat (first | refine blk_drewN ?_ _ | refine blk_drew ?_ | refine blk_alloc ?_ _)); exact BK147.out) hb); have n4_ := Aside0.mk (blk_below (g := gb148) (by (with_reducible repeat (first | refine blk_drewN ?_ _ | refine blk_drew ?_ | refine blk_alloc ?_ _)); exact BK148.out) hb); have n5_ := Aside0.mk (blk_below (g := gb149) (by (with_reducible repeat (first | refine blk_drewN ?_ _ | refine blk_drew ?_ | refine blk_alloc ?_ _)); exact BK149.out) hb); have n6_ := Aside0.mk (below_step (by repeat (first | (with_reducible first | exact HB.out | apply below_alloc | apply pw_below_drewN | apply below_drew1 | refine below_set ?_ GE145.out | refine below_set ?_ GE146.out | refine below_set ?_ GE147.out | refine below_set ?_ GE148.out | refine below_set ?_ GE149.out) | exact HB.out)) hb); clear BK145; clear BK146; clear BK147; clear BK148; clear BK149; clear HB; have HO164 := n0_; have BK145 := n1_; have BK146 := n2_; have BK147 := n3_; have BK148 := n4_; have BK149 := n5_; have HB := n6_; clear n0_ n1_ n2_ n3_ n4_ n5_ n6_; (try clear hb); (try clear hb2); (try clear hk); (try clear hi); (try clear ho0); have hcz20_0 : w19.cell? ⟨gb145, 0, none⟩ = some (.int .i64 a0_0) := (blk_cell BK145.out 0).trans rfl; have hcz20_1 : w19.cell? ⟨gb145, 1, none⟩ = some (.int .i64 a0_1) := (blk_cell BK145.out 1).trans rfl; have hcz20_2 : w19.cell? ⟨gb145, 2, none⟩ = some (.int .i64 a0_2) := (blk_cell BK145.out 2).trans rfl; have hcz20_3 : w19.cell? ⟨gb145, 3, none⟩ = some (.int .i64 a0_3) := (blk_cell BK145.out 3).trans rfl; have hcz20_4 : w19.cell? ⟨gb145, 4, none⟩ = some (.int .i64 a0_4) := (blk_cell BK145.out 4).trans rfl; have hcz20_5 : w19.cell? ⟨gb145, 5, none⟩ = some (.int .i64 a0_5) := (blk_cell BK145.out 5).trans rfl; have hcz20_6 : w19.cell? ⟨gb145, 6, none⟩ = some (.int .i64 a0_6) := (blk_cell BK145.out 6).trans rfl; have hcz20_7 : w19.cell? ⟨gb145, 7, none⟩ = some (.int .i64 a0_7) := (blk_cell BK145.out 7).trans rfl; have hcz20_8 : w19.cell? ⟨gb145, 8, none⟩ = some (.int .i64 a0_8) := (blk_cell BK145.out 8).trans rfl; have hcz20_9 : w19.cell? ⟨gb145, 9, none⟩ = some (.int .i64 a0_9) := (blk_cell BK145.out 9).trans rfl; have hcz20_10 : w19.cell? ⟨gb145, 10, none⟩ = some (.string a0_10) := (blk_cell BK145.out 10).trans rfl; have hcz20_11 : w19.cell? ⟨gb145, 11, none⟩ = some (.int .i64 a0_11) := (blk_cell BK145.out 11).trans rfl; have hcz20_12 : w19.cell? ⟨gb145, 12, none⟩ = some (.slice A0_12 l0_12.length c0_12) := (blk_cell BK145.out 12).trans rfl; have hfz20_0 := blk_frozen BK145.out 0; have hfz20_1 := blk_frozen BK145.out 1; have hfz20_2 := blk_frozen BK145.out 2; have hfz20_3 := blk_frozen BK145.out 3; have hfz20_4 := blk_frozen BK145.out 4; have hfz20_5 := blk_frozen BK145.out 5; have hfz20_6 := blk_frozen BK145.out 6; have hfz20_7 := blk_frozen BK145.out 7; have hfz20_8 := blk_frozen BK145.out 8; have hfz20_9 := blk_frozen BK145.out 9; have hfz20_10 := blk_frozen BK145.out 10; have hfz20_11 := blk_frozen BK145.out 11; have hfz20_12 := blk_frozen BK145.out 12; obtain ⟨Ao21, co21, eo21⟩ := Kd.R_slice HO164.out; subst eo21; have hnb22 := NB146_147.out; have hnc22 := NB147_146.out; have hnb23 := NB146_148.out; have hnc23 := NB148_146.out; have hnb24 := NB146_149.out; have hnc24 := NB149_146.out; have hcz25_0 : w19.cell? ⟨gb146, 0, none⟩ = some (.int .i64 a2_0) := (blk_cell BK146.out 0).trans rfl; have hcz25_1 : w19.cell? ⟨gb146, 1, none⟩ = some (.int .i64 a2_1) := (blk_cell BK146.out 1).trans rfl; have hfz25_0 := blk_frozen BK146.out 0; have hfz25_1 := blk_frozen BK146.out 1) | ((with_reducible refine gate_callee (f := 40) rfl ?_); refine goesL_ (some 17) rfl rfl Try.func40 (by kernel_rfl) rfl #[.agg #[.int .i64 t150, .int .i64 t151, .int .i64 t152, .int .i64 t153, .int .i64 t154, .int .i64 t155, .int .i64 t156, .int .i64 t157, .int .i64 t158, .int .i64 t159, .string t160, .int .i64 t161, .slice Ao21 t162.length co21], .agg #[.int .i64 a2_0, .int .i64 a2_1]] rfl (by (try simp only [List.map_toArray, List.map_cons, List.map_nil]); first | done | rfl | (simp only [List.length_drop, List.length_take]; rfl)) ?_; (with_reducible refine (instance_late.calls k t150 t151 t152 t153 t154 t155 t156 t157 t158 t159 t160 t161 _ _ t162 a2_0 a2_1 true _ ?side1 ?side2 A7.out).mono ?_); (case side1 => refine (Kd.R_reads' (e := 3) (base := w.heap.size) (ok := fun k_ => True) (n := t162.length) (c := co21) ?_).2.2; exact (by (with_reducible repeat (first | apply Kd.R_alloc | apply Kd.R_drewN | apply Kd.R_drew)); exact (Kd.R_mono (Kd.R_far13 (g := gb145) (Kd.R_types HO164.out BK145.out (by decide)) (fun _ hk => hk.2)) (fun _ h_ => h_.1)))); (case side2 => exact (Kd.R_reads' HO164.out).2.1); rintro e w26 ⟨rfl, hb⟩; refine ⟨_, rfl, ?_⟩; have n0_ := Aside0.mk (Kd.R_below (by (with_reducible repeat (first | apply Kd.R_alloc | apply Kd.R_drewN | apply Kd.R_drew)); exact (Kd.R_mono (Kd.R_far13 (g := gb145) (Kd.R_types HO164.out BK145.out (by decide)) (fun _ hk => hk.2)) (fun _ h_ => h_.1))) hb); have n1_ := Aside0.mk (blk_below (g := gb145) (o := .cells #[.int .i64 t150, .int .i64 t151, .int .i64 t152, .int .i64 t153, .int .i64 t154, .int .i64 t155, .int .i64 t156, .int .i64 t157, .int .i64 t158, .int .i64 t159, .string t160, .int .i64 t161, .slice Ao21 t162.length co21] 32 (0, 0)) (by (with_reducible repeat (first | refine blk_drewN ?_ _ | refine blk_drew ?_ | refine blk_alloc ?_ _)); refine blk_put13 (cs := #[.int .i64 a0_0, .int .i64 a0_1, .int .i64 a0_2, .int .i64 a0_3, .int .i64 a0_4, .int .i64 a0_5, .int .i64 a0_6, .int .i64 a0_7, .int .i64 a0_8, .int .i64 a0_9, .string a0_10, .int .i64 a0_11, .slice A0_12 l0_12.length c0_12]) ?_ rfl; (with_reducible repeat (first | refine blk_drewN ?_ _ | refine blk_drew ?_ | refine blk_alloc ?_ _)); exact BK145.out) hb); have n2_ := Aside0.mk (blk_below (g := gb146) (o := .cells #[.int .i64 a2_0, .int .i64 a2_1] 25 (0, 0)) (by (with_reducible repeat (first | refine blk_drewN ?_ _ | refine blk_drew ?_ | refine blk_alloc ?_ _)); (iterate 13 (refine blk_far ?_ NB146_145.out _)); (with_reducible repeat (first | refine blk_drewN ?_ _ | refine blk_drew ?_ | refine blk_alloc ?_ _)); exact BK146.out) hb); have n3_ := Aside0.mk (blk_below (g := gb147) (o := .cells #[.int .i64 a3_0, .int .i64 a3_1, .int .i64 a3_2, .int .i64 a3_3, .int .i64 a3_4, .string a3_5] 27 (0, 0)) (by (with_reducible repeat (first | refine blk_drewN ?_ _ | refine blk_drew ?_ | refine blk_alloc ?_ _)); (iterate 13 (refine blk_far ?_ NB147_145.out _)); (with_reducible repeat (first | refine blk_drewN ?_ _ | refine blk_drew ?_ | refine blk_alloc ?_ _)); exact BK147.out) hb); have n4_ := Aside0.mk (blk_below (g := gb148) (o := .cells #[.int .i64 a4_0, .slice A4_1 l4_1.length c4_1] 30 (0, 0)) (by (with_reducible repeat (first | refine blk_drewN ?_ _ | refine blk_drew ?_ | refine blk_alloc ?_ _)); (iterate 13 (refine blk_far ?_ NB148_145.out _)); (with_reducible repeat (first | refine blk_drewN ?_ _ | refine blk_drew ?_ | refine blk_alloc ?_ _)); exact BK148.out) hb); have n5_ := Aside0.mk (blk_below (g := gb149) (o := .cells #[.int .i64 0, .int .i64 0, .int .i64 0, .int .i64 0, .int .i64 0, .int .i64 0, .int .i64 0, .int .i64 0, .int .i64 0, .int .i64 0, .string (⟨#[]⟩ : ByteArray), .int .i64 0, .slice none 0 0] 32 (0, 0)) (by (with_reducible repeat (first | refine blk_drewN ?_ _ | refine blk_drew ?_ | refine blk_alloc ?_ _)); (iterate 13 (refine blk_far ?_ NB149_145.out _)); (with_reducible repeat (first | refine blk_drewN ?_ _ | refine blk_drew ?_ | refine blk_alloc ?_ _)); exact BK149.out) hb); have n6_ := Aside0.mk (below_step (by repeat (first | (with_reducible first | exact HB.out | apply below_alloc | apply pw_below_drewN | apply below_drew1 | refine below_set ?_ GE145.out | refine below_set ?_ GE146.out | refine below_set ?_ GE147.out | refine below_set ?_ GE148.out | refine below_set ?_ GE149.out) | exact HB.out)) hb); clear HO164; clear BK145; clear BK146; clear BK147; clear BK148; clear BK149; clear HB; have HO164 := n0_; have BK145 := n1_; have BK146 := n2_; have BK147 := n3_; have BK148 := n4_; have BK149 := n5_; have HB := n6_; clear n0_ n1_ n2_ n3_ n4_ n5_ n6_; (try clear hb); (try clear hb2); (try clear hk); (try clear hi); have hcz27_0 : w26.cell? ⟨gb145, 0, none⟩ = some (.int .i64 t150) := (blk_cell BK145.out 0).trans rfl; have hcz27_1 : w26.cell? ⟨gb145, 1, none⟩ = some (.int .i64 t151) := (blk_cell BK145.out 1).trans rfl; have hcz27_2 : w26.cell? ⟨gb145, 2, none⟩ = some (.int .i64 t152) := (blk_cell BK145.out 2).trans rfl; have hcz27_3 : w26.cell? ⟨gb145, 3, none⟩ = some (.int .i64 t153) := (blk_cell BK145.out 3).trans rfl; have hcz27_4 : w26.cell? ⟨gb145, 4, none⟩ = some (.int .i64 t154) := (blk_cell BK145.out 4).trans rfl; have hcz27_5 : w26.cell? ⟨gb145, 5, none⟩ = some (.int .i64 t155) := (blk_cell BK145.out 5).trans rfl; have hcz27_6 : w26.cell? ⟨gb145, 6, none⟩ = some (.int .i64 t156) := (blk_cell BK145.out 6).trans rfl; have hcz27_7 : w26.cell? ⟨gb145, 7, none⟩ = some (.int .i64 t157) := (blk_cell BK145.out 7).trans rfl; have hcz27_8 : w26.cell? ⟨gb145, 8, none⟩ = some (.int .i64 t158) := (blk_cell BK145.out 8).trans rfl; have hcz27_9 : w26.cell? ⟨gb145, 9, none⟩ = some (.int .i64 t159) := (blk_cell BK145.out 9).trans rfl; have hcz27_10 : w26.cell? ⟨gb145, 10, none⟩ = some (.string t160) := (blk_cell BK145.out 10).trans rfl; have hcz27_11 : w26.cell? ⟨gb145, 11, none⟩ = some (.int .i64 t161) := (blk_cell BK145.out 11).trans rfl; have hcz27_12 : w26.cell? ⟨gb145, 12, none⟩ = some (.slice Ao21 t162.length co21) := (blk_cell BK145.out 12).trans rfl; have hfz27_0 := blk_frozen BK145.out 0; have hfz27_1 := blk_frozen BK145.out 1; have hfz27_2 := blk_frozen BK145.out 2; have hfz27_3 := blk_frozen BK145.out 3; have hfz27_4 := blk_frozen BK145.out 4; have hfz27_5 := blk_frozen BK145.out 5; have hfz27_6 := blk_frozen BK145.out 6; have hfz27_7 := blk_frozen BK145.out 7; have hfz27_8 := blk_frozen BK145.out 8; have hfz27_9 := blk_frozen BK145.out 9; have hfz27_10 := blk_frozen BK145.out 10; have hfz27_11 := blk_frozen BK145.out 11; have hfz27_12 := blk_frozen BK145.out 12; have hnb28 := NB149_147.out; have hnc28 := NB147_149.out; have hnb29 := NB149_148.out; have hnc29 := NB148_149.out; have hcz30_0 : w26.cell? ⟨gb149, 0, none⟩ = some (.int .i64 0) := (blk_cell BK149.out 0).trans rfl; have hcz30_1 : w26.cell? ⟨gb149, 1, none⟩ = some (.int .i64 0) := (blk_cell BK149.out 1).trans rfl; have hcz30_2 : w26.cell? ⟨gb149, 2, none⟩ = some (.int .i64 0) := (blk_cell BK149.out 2).trans rfl; have hcz30_3 : w26.cell? ⟨gb149, 3, none⟩ = some (.int .i64 0) := (blk_cell BK149.out 3).trans rfl; have hcz30_4 : w26.cell? ⟨gb149, 4, none⟩ = some (.int .i64 0) := (blk_cell BK149.out 4).trans rfl; have hcz30_5 : w26.cell? ⟨gb149, 5, none⟩ = some (.int .i64 0) := (blk_cell BK149.out 5).trans rfl; have hcz30_6 : w26.cell? ⟨gb149, 6, none⟩ = some (.int .i64 0) := (blk_cell BK149.out 6).trans rfl; have hcz30_7 : w26.cell? ⟨gb149, 7, none⟩ = some (.int .i64 0) := (blk_cell BK149.out 7).trans rfl; have hcz30_8 : w26.cell? ⟨gb149, 8, none⟩ = some (.int .i64 0) := (blk_cell BK149.out 8).trans rfl; have hcz30_9 : w26.cell? ⟨gb149, 9, none⟩ = some (.int .i64 0) := (blk_cell BK149.out 9).trans rfl; have hcz30_10 : w26.cell? ⟨gb149, 10, none⟩ = some (.string (⟨#[]⟩ : ByteArray)) := (blk_cell BK149.out 10).trans rfl; have hcz30_11 : w26.cell? ⟨gb149, 11, none⟩ = some (.int .i64 0) := (blk_cell BK149.out 11).trans rfl; have hcz30_12 : w26.cell? ⟨gb149, 12, none⟩ = some (.slice none 0 0) := (blk_cell BK149.out 12).trans rfl; have hfz30_0 := blk_frozen BK149.out 0; have hfz30_1 := blk_frozen BK149.out 1; have hfz30_2 := blk_frozen BK149.out 2; have hfz30_3 := blk_frozen BK149.out 3; have hfz30_4 := blk_frozen BK149.out 4; have hfz30_5 := blk_frozen BK149.out 5; have hfz30_6 := blk_frozen BK149.out 6; have hfz30_7 := blk_frozen BK149.out 7; have hfz30_8 := blk_frozen BK149.out 8; have hfz30_9 := blk_frozen BK149.out 9; have hfz30_10 := blk_frozen BK149.out 10; have hfz30_11 := blk_frozen BK149.out 11; have hfz30_12 := blk_frozen BK149.out 12))
    refine bodyPost_ret (results_ct rfl _ _ gb149 32 #[.int .i64 t150, .int .i64 t151, .int .i64 t152, .int .i64 t153, .int .i64 t154, .int .i64 t155, .int .i64 t156, .int .i64 t157, .int .i64 t158, .int .i64 t159, .string t160, .int .i64 t161, .slice Ao21 t162.length co21] (0, 0) _ rfl (by (with_reducible repeat (first | refine blk_drewN ?_ _ | refine blk_drew ?_ | refine blk_alloc ?_ _)); refine blk_put13 (cs := #[.int .i64 0, .int .i64 0, .int .i64 0, .int .i64 0, .int .i64 0, .int .i64 0, .int .i64 0, .int .i64 0, .int .i64 0, .int .i64 0, .string (⟨#[]⟩ : ByteArray), .int .i64 0, .slice none 0 0]) ?_ rfl; (with_reducible repeat (first | refine blk_drewN ?_ _ | refine blk_drew ?_ | refine blk_alloc ?_ _)); exact BK149.out) Try.underlying32 rfl (by kernel_rfl)) rfl ?_
    exact ⟨_, by first | rfl | (simp [errW_none, errW_some] <;> rfl) | (simp [*, errW_none, errW_some] <;> rfl), by (with_reducible repeat (first | apply Kd.R_alloc | apply Kd.R_drewN | apply Kd.R_drew)); exact Kd.R_mono (Kd.R_far13 (g := gb149) (Kd.R_types HO164.out BK149.out (by decide)) (fun _ hk => hk.2)) (fun _ hk => trivial), by repeat (first | (with_reducible first | exact HB.out | apply below_alloc | apply pw_below_drewN | apply below_drew1 | refine below_set ?_ GE145.out | refine below_set ?_ GE146.out | refine below_set ?_ GE147.out | refine below_set ?_ GE148.out | refine below_set ?_ GE149.out) | exact HB.out)⟩
  · replace c8 := Bool.eq_false_iff.mpr c8
    subst c8
    have H1 : (if (t153 == a2_0 && (t154 == a2_1)) = true then (instance_vote.j0 k a1 (t150 == a1) t150 t151 t152 t153 t154 t155 t156 t157 t158 t159 t160 t161 t162 a2_0 a2_1 a3_0 a3_1 a3_2 a3_3 a3_4 a3_5 a4_0 l4_1) else (instance_vote.j0 k a1 false t150 t151 t152 t153 t154 t155 t156 t157 t158 t159 t160 t161 t162 a2_0 a2_1 a3_0 a3_1 a3_2 a3_3 a3_4 a3_5 a4_0 l4_1)) = some (r1, r2, r3, r4, r5, r6, r7, r8, r9, r10, r11, r12, r13, r14) := by rw [if_neg (show ¬ (false = true) by decide)] at H; exact H
    clear H
    have H := H1
    clear H1
    have HC31 := Aside0.mk H
    clear H
    go_enter Try.func41, Try.ntmps41
    go_upto_region 4 with (first | ((with_reducible refine gate_dst (N := 5) rfl ?_); refine box_event ?hg (N := 5) ?hd (cs := #[.int .i64 a0_0, .int .i64 a0_1, .int .i64 a0_2, .int .i64 a0_3, .int .i64 a0_4, .int .i64 a0_5, .int .i64 a0_6, .int .i64 a0_7, .int .i64 a0_8, .int .i64 a0_9, .string a0_10, .int .i64 a0_11, .slice A0_12 l0_12.length c0_12]) (t := 32) ?hr ?_; (case hd => rfl); (case hg => rfl); (case hr => first | (go_simp; done) | (go_simp; rfl)); intro gb145 hg w32 hbox hb; have n0_ := Aside0.mk (below_step (by repeat (first | (with_reducible first | exact HB.out | apply below_alloc | apply pw_below_drewN | apply below_drew1) | exact HB.out)) hb); have n1_ := Aside0.mk (hbox); have n2_ := Aside0.mk ((by rw [hg]; exact (below_size (by repeat (first | (with_reducible first | exact HB.out | apply below_alloc | apply pw_below_drewN | apply below_drew1) | exact HB.out))) : w.heap.size ≤ gb145)); have n3_ := Aside0.mk ((by rw [hg]; exact (below_size (by repeat (first | (with_reducible first | exact HB.out | apply below_alloc | apply pw_below_drewN | apply below_drew1) | exact HB.out))) : w.heap.size ≤ gb145)); clear HB; have HB := n0_; have BK145 := n1_; have GW145 := n2_; have GE145 := n3_; clear n0_ n1_ n2_ n3_; clear hb hbox hg) | ((with_reducible refine gate_dst (N := 7) rfl ?_); refine box_event ?hg (N := 7) ?hd (cs := #[.int .i64 a2_0, .int .i64 a2_1]) (t := 25) ?hr ?_; (case hd => rfl); (case hg => rfl); (case hr => first | (go_simp; done) | (go_simp; rfl)); intro gb146 hg w33 hbox hb; have n0_ := Aside0.mk (blk_below (g := gb145) (by (with_reducible repeat (first | refine blk_drewN ?_ _ | refine blk_drew ?_ | refine blk_alloc ?_ _)); exact BK145.out) hb); have n1_ := Aside0.mk (below_step (by repeat (first | (with_reducible first | exact HB.out | apply below_alloc | apply pw_below_drewN | apply below_drew1 | refine below_set ?_ GE145.out) | exact HB.out)) hb); have n2_ := Aside0.mk (hbox); have n3_ := Aside0.mk ((by rw [hg]; exact (below_size (by repeat (first | (with_reducible first | exact HB.out | apply below_alloc | apply pw_below_drewN | apply below_drew1 | refine below_set ?_ GE145.out) | exact HB.out))) : w.heap.size ≤ gb146)); have n4_ := Aside0.mk ((by rw [hg]; exact (below_size (by repeat (first | (with_reducible first | exact HB.out | apply below_alloc | apply pw_below_drewN | apply below_drew1 | refine below_set ?_ GE145.out) | exact HB.out))) : w.heap.size ≤ gb146)); have n5_ := Aside0.mk ((by rw [hg]; exact Nat.ne_of_lt (blk_lt (g := gb145) (by (with_reducible repeat (first | refine blk_drewN ?_ _ | refine blk_drew ?_ | refine blk_alloc ?_ _)); exact BK145.out)) : gb145 ≠ gb146)); have n6_ := Aside0.mk ((by rw [hg]; exact Nat.ne_of_gt (blk_lt (g := gb145) (by (with_reducible repeat (first | refine blk_drewN ?_ _ | refine blk_drew ?_ | refine blk_alloc ?_ _)); exact BK145.out)) : gb146 ≠ gb145)); clear BK145; clear HB; have BK145 := n0_; have HB := n1_; have BK146 := n2_; have GW146 := n3_; have GE146 := n4_; have NB145_146 := n5_; have NB146_145 := n6_; clear n0_ n1_ n2_ n3_ n4_ n5_ n6_; clear hb hbox hg) | ((with_reducible refine gate_dst (N := 8) rfl ?_); refine box_event ?hg (N := 8) ?hd (cs := #[.int .i64 a3_0, .int .i64 a3_1, .int .i64 a3_2, .int .i64 a3_3, .int .i64 a3_4, .string a3_5]) (t := 27) ?hr ?_; (case hd => rfl); (case hg => rfl); (case hr => first | (go_simp; done) | (go_simp; rfl)); intro gb147 hg w34 hbox hb; have n0_ := Aside0.mk (blk_below (g := gb145) (by (with_reducible repeat (first | refine blk_drewN ?_ _ | refine blk_drew ?_ | refine blk_alloc ?_ _)); exact BK145.out) hb); have n1_ := Aside0.mk (blk_below (g := gb146) (by (with_reducible repeat (first | refine blk_drewN ?_ _ | refine blk_drew ?_ | refine blk_alloc ?_ _)); exact BK146.out) hb); have n2_ := Aside0.mk (below_step (by repeat (first | (with_reducible first | exact HB.out | apply below_alloc | apply pw_below_drewN | apply below_drew1 | refine below_set ?_ GE145.out | refine below_set ?_ GE146.out) | exact HB.out)) hb); have n3_ := Aside0.mk (hbox); have n4_ := Aside0.mk ((by rw [hg]; exact (below_size (by repeat (first | (with_reducible first | exact HB.out | apply below_alloc | apply pw_below_drewN | apply below_drew1 | refine below_set ?_ GE145.out | refine below_set ?_ GE146.out) | exact HB.out))) : w.heap.size ≤ gb147)); have n5_ := Aside0.mk ((by rw [hg]; exact (below_size (by repeat (first | (with_reducible first | exact HB.out | apply below_alloc | apply pw_below_drewN | apply below_drew1 | refine below_set ?_ GE145.out | refine below_set ?_ GE146.out) | exact HB.out))) : w.heap.size ≤ gb147)); have n6_ := Aside0.mk ((by rw [hg]; exact Nat.ne_of_lt (blk_lt (g := gb145) (by (with_reducible repeat (first | refine blk_drewN ?_ _ | refine blk_drew ?_ | refine blk_alloc ?_ _)); exact BK145.out)) : gb145 ≠ gb147)); have n7_ := Aside0.mk ((by rw [hg]; exact Nat.ne_of_gt (blk_lt (g := gb145) (by (with_reducible repeat (first | refine blk_drewN ?_ _ | refine blk_drew ?_ | refine blk_alloc ?_ _)); exact BK145.out)) : gb147 ≠ gb145)); have n8_ := Aside0.mk ((by rw [hg]; exact Nat.ne_of_lt (blk_lt (g := gb146) (by (with_reducible repeat (first | refine blk_drewN ?_ _ | refine blk_drew ?_ | refine blk_alloc ?_ _)); exact BK146.out)) : gb146 ≠ gb147)); have n9_ := Aside0.mk ((by rw [hg]; exact Nat.ne_of_gt (blk_lt (g := gb146) (by (with_reducible repeat (first | refine blk_drewN ?_ _ | refine blk_drew ?_ | refine blk_alloc ?_ _)); exact BK146.out)) : gb147 ≠ gb146)); clear BK145; clear BK146; clear HB; have BK145 := n0_; have BK146 := n1_; have HB := n2_; have BK147 := n3_; have GW147 := n4_; have GE147 := n5_; have NB145_147 := n6_; have NB147_145 := n7_; have NB146_147 := n8_; have NB147_146 := n9_; clear n0_ n1_ n2_ n3_ n4_ n5_ n6_ n7_ n8_ n9_; clear hb hbox hg) | ((with_reducible refine gate_dst (N := 9) rfl ?_); refine box_event ?hg (N := 9) ?hd (cs := #[.int .i64 a4_0, .slice A4_1 l4_1.length c4_1]) (t := 30) ?hr ?_; (case hd => rfl); (case hg => rfl); (case hr => first | (go_simp; done) | (go_simp; rfl)); intro gb148 hg w35 hbox hb; have n0_ := Aside0.mk (blk_below (g := gb145) (by (with_reducible repeat (first | refine blk_drewN ?_ _ | refine blk_drew ?_ | refine blk_alloc ?_ _)); exact BK145.out) hb); have n1_ := Aside0.mk (blk_below (g := gb146) (by (with_reducible repeat (first | refine blk_drewN ?_ _ | refine blk_drew ?_ | refine blk_alloc ?_ _)); exact BK146.out) hb); have n2_ := Aside0.mk (blk_below (g := gb147) (by (with_reducible repeat (first | refine blk_drewN ?_ _ | refine blk_drew ?_ | refine blk_alloc ?_ _)); exact BK147.out) hb); have n3_ := Aside0.mk (below_step (by repeat (first | (with_reducible first | exact HB.out | apply below_alloc | apply pw_below_drewN | apply below_drew1 | refine below_set ?_ GE145.out | refine below_set ?_ GE146.out | refine below_set ?_ GE147.out) | exact HB.out)) hb); have n4_ := Aside0.mk (hbox); have n5_ := Aside0.mk ((by rw [hg]; exact (below_size (by repeat (first | (with_reducible first | exact HB.out | apply below_alloc | apply pw_below_drewN | apply below_drew1 | refine below_set ?_ GE145.out | refine below_set ?_ GE146.out | refine below_set ?_ GE147.out) | exact HB.out))) : w.heap.size ≤ gb148)); have n6_ := Aside0.mk ((by rw [hg]; exact (below_size (by repeat (first | (with_reducible first | exact HB.out | apply below_alloc | apply pw_below_drewN | apply below_drew1 | refine below_set ?_ GE145.out | refine below_set ?_ GE146.out | refine below_set ?_ GE147.out) | exact HB.out))) : w.heap.size ≤ gb148)); have n7_ := Aside0.mk ((by rw [hg]; exact Nat.ne_of_lt (blk_lt (g := gb145) (by (with_reducible repeat (first | refine blk_drewN ?_ _ | refine blk_drew ?_ | refine blk_alloc ?_ _)); exact BK145.out)) : gb145 ≠ gb148)); have n8_ := Aside0.mk ((by rw [hg]; exact Nat.ne_of_gt (blk_lt (g := gb145) (by (with_reducible repeat (first | refine blk_drewN ?_ _ | refine blk_drew ?_ | refine blk_alloc ?_ _)); exact BK145.out)) : gb148 ≠ gb145)); have n9_ := Aside0.mk ((by rw [hg]; exact Nat.ne_of_lt (blk_lt (g := gb146) (by (with_reducible repeat (first | refine blk_drewN ?_ _ | refine blk_drew ?_ | refine blk_alloc ?_ _)); exact BK146.out)) : gb146 ≠ gb148)); have n10_ := Aside0.mk ((by rw [hg]; exact Nat.ne_of_gt (blk_lt (g := gb146) (by (with_reducible repeat (first | refine blk_drewN ?_ _ | refine blk_drew ?_ | refine blk_alloc ?_ _)); exact BK146.out)) : gb148 ≠ gb146)); have n11_ := Aside0.mk ((by rw [hg]; exact Nat.ne_of_lt (blk_lt (g := gb147) (by (with_reducible repeat (first | refine blk_drewN ?_ _ | refine blk_drew ?_ | refine blk_alloc ?_ _)); exact BK147.out)) : gb147 ≠ gb148)); have n12_ := Aside0.mk ((by rw [hg]; exact Nat.ne_of_gt (blk_lt (g := gb147) (by (with_reducible repeat (first | refine blk_drewN ?_ _ | refine blk_drew ?_ | refine blk_alloc ?_ _)); exact BK147.out)) : gb148 ≠ gb147)); clear BK145; clear BK146; clear BK147; clear HB; have BK145 := n0_; have BK146 := n1_; have BK147 := n2_; have HB := n3_; have BK148 := n4_; have GW148 := n5_; have GE148 := n6_; have NB145_148 := n7_; have NB148_145 := n8_; have NB146_148 := n9_; have NB148_146 := n10_; have NB147_148 := n11_; have NB148_147 := n12_; clear n0_ n1_ n2_ n3_ n4_ n5_ n6_ n7_ n8_ n9_ n10_ n11_ n12_; clear hb hbox hg) | ((with_reducible refine gate_dst (N := 10) rfl ?_); refine box_event ?hg (N := 10) ?hd (cs := #[.int .i64 0, .int .i64 0, .int .i64 0, .int .i64 0, .int .i64 0, .int .i64 0, .int .i64 0, .int .i64 0, .int .i64 0, .int .i64 0, .string (⟨#[]⟩ : ByteArray), .int .i64 0, .slice none 0 0]) (t := 32) ?hr ?_; (case hd => rfl); (case hg => rfl); (case hr => first | (go_simp; done) | (go_simp; rfl)); intro gb149 hg w36 hbox hb; have n0_ := Aside0.mk (blk_below (g := gb145) (by (with_reducible repeat (first | refine blk_drewN ?_ _ | refine blk_drew ?_ | refine blk_alloc ?_ _)); exact BK145.out) hb); have n1_ := Aside0.mk (blk_below (g := gb146) (by (with_reducible repeat (first | refine blk_drewN ?_ _ | refine blk_drew ?_ | refine blk_alloc ?_ _)); exact BK146.out) hb); have n2_ := Aside0.mk (blk_below (g := gb147) (by (with_reducible repeat (first | refine blk_drewN ?_ _ | refine blk_drew ?_ | refine blk_alloc ?_ _)); exact BK147.out) hb); have n3_ := Aside0.mk (blk_below (g := gb148) (by (with_reducible repeat (first | refine blk_drewN ?_ _ | refine blk_drew ?_ | refine blk_alloc ?_ _)); exact BK148.out) hb); have n4_ := Aside0.mk (below_step (by repeat (first | (with_reducible first | exact HB.out | apply below_alloc | apply pw_below_drewN | apply below_drew1 | refine below_set ?_ GE145.out | refine below_set ?_ GE146.out | refine below_set ?_ GE147.out | refine below_set ?_ GE148.out) | exact HB.out)) hb); have n5_ := Aside0.mk (hbox); have n6_ := Aside0.mk ((by rw [hg]; exact (below_size (by repeat (first | (with_reducible first | exact HB.out | apply below_alloc | apply pw_below_drewN | apply below_drew1 | refine below_set ?_ GE145.out | refine below_set ?_ GE146.out | refine below_set ?_ GE147.out | refine below_set ?_ GE148.out) | exact HB.out))) : w.heap.size ≤ gb149)); have n7_ := Aside0.mk ((by rw [hg]; exact (below_size (by repeat (first | (with_reducible first | exact HB.out | apply below_alloc | apply pw_below_drewN | apply below_drew1 | refine below_set ?_ GE145.out | refine below_set ?_ GE146.out | refine below_set ?_ GE147.out | refine below_set ?_ GE148.out) | exact HB.out))) : w.heap.size ≤ gb149)); have n8_ := Aside0.mk ((by rw [hg]; exact Nat.ne_of_lt (blk_lt (g := gb145) (by (with_reducible repeat (first | refine blk_drewN ?_ _ | refine blk_drew ?_ | refine blk_alloc ?_ _)); exact BK145.out)) : gb145 ≠ gb149)); have n9_ := Aside0.mk ((by rw [hg]; exact Nat.ne_of_gt (blk_lt (g := gb145) (by (with_reducible repeat (first | refine blk_drewN ?_ _ | refine blk_drew ?_ | refine blk_alloc ?_ _)); exact BK145.out)) : gb149 ≠ gb145)); have n10_ := Aside0.mk ((by rw [hg]; exact Nat.ne_of_lt (blk_lt (g := gb146) (by (with_reducible repeat (first | refine blk_drewN ?_ _ | refine blk_drew ?_ | refine blk_alloc ?_ _)); exact BK146.out)) : gb146 ≠ gb149)); have n11_ := Aside0.mk ((by rw [hg]; exact Nat.ne_of_gt (blk_lt (g := gb146) (by (with_reducible repeat (first | refine blk_drewN ?_ _ | refine blk_drew ?_ | refine blk_alloc ?_ _)); exact BK146.out)) : gb149 ≠ gb146)); have n12_ := Aside0.mk ((by rw [hg]; exact Nat.ne_of_lt (blk_lt (g := gb147) (by (with_reducible repeat (first | refine blk_drewN ?_ _ | refine blk_drew ?_ | refine blk_alloc ?_ _)); exact BK147.out)) : gb147 ≠ gb149)); have n13_ := Aside0.mk ((by rw [hg]; exact Nat.ne_of_gt (blk_lt (g := gb147) (by (with_reducible repeat (first | refine blk_drewN ?_ _ | refine blk_drew ?_ | refine blk_alloc ?_ _)); exact BK147.out)) : gb149 ≠ gb147)); have n14_ := Aside0.mk ((by rw [hg]; exact Nat.ne_of_lt (blk_lt (g := gb148) (by (with_reducible repeat (first | refine blk_drewN ?_ _ | refine blk_drew ?_ | refine blk_alloc ?_ _)); exact BK148.out)) : gb148 ≠ gb149)); have n15_ := Aside0.mk ((by rw [hg]; exact Nat.ne_of_gt (blk_lt (g := gb148) (by (with_reducible repeat (first | refine blk_drewN ?_ _ | refine blk_drew ?_ | refine blk_alloc ?_ _)); exact BK148.out)) : gb149 ≠ gb148)); clear BK145; clear BK146; clear BK147; clear BK148; clear HB; have BK145 := n0_; have BK146 := n1_; have BK147 := n2_; have BK148 := n3_; have HB := n4_; have BK149 := n5_; have GW149 := n6_; have GE149 := n7_; have NB145_149 := n8_; have NB149_145 := n9_; have NB146_149 := n10_; have NB149_146 := n11_; have NB147_149 := n12_; have NB149_147 := n13_; have NB148_149 := n14_; have NB149_148 := n15_; clear n0_ n1_ n2_ n3_ n4_ n5_ n6_ n7_ n8_ n9_ n10_ n11_ n12_ n13_ n14_ n15_; clear hb hbox hg; have hnb37 := NB145_146.out; have hnc37 := NB146_145.out; have hnb38 := NB145_147.out; have hnc38 := NB147_145.out; have hnb39 := NB145_148.out; have hnc39 := NB148_145.out; have hnb40 := NB145_149.out; have hnc40 := NB149_145.out; have hcz41_0 : w36.cell? ⟨gb145, 0, none⟩ = some (.int .i64 a0_0) := (blk_cell BK145.out 0).trans rfl; have hcz41_1 : w36.cell? ⟨gb145, 1, none⟩ = some (.int .i64 a0_1) := (blk_cell BK145.out 1).trans rfl; have hcz41_2 : w36.cell? ⟨gb145, 2, none⟩ = some (.int .i64 a0_2) := (blk_cell BK145.out 2).trans rfl; have hcz41_3 : w36.cell? ⟨gb145, 3, none⟩ = some (.int .i64 a0_3) := (blk_cell BK145.out 3).trans rfl; have hcz41_4 : w36.cell? ⟨gb145, 4, none⟩ = some (.int .i64 a0_4) := (blk_cell BK145.out 4).trans rfl; have hcz41_5 : w36.cell? ⟨gb145, 5, none⟩ = some (.int .i64 a0_5) := (blk_cell BK145.out 5).trans rfl; have hcz41_6 : w36.cell? ⟨gb145, 6, none⟩ = some (.int .i64 a0_6) := (blk_cell BK145.out 6).trans rfl; have hcz41_7 : w36.cell? ⟨gb145, 7, none⟩ = some (.int .i64 a0_7) := (blk_cell BK145.out 7).trans rfl; have hcz41_8 : w36.cell? ⟨gb145, 8, none⟩ = some (.int .i64 a0_8) := (blk_cell BK145.out 8).trans rfl; have hcz41_9 : w36.cell? ⟨gb145, 9, none⟩ = some (.int .i64 a0_9) := (blk_cell BK145.out 9).trans rfl; have hcz41_10 : w36.cell? ⟨gb145, 10, none⟩ = some (.string a0_10) := (blk_cell BK145.out 10).trans rfl; have hcz41_11 : w36.cell? ⟨gb145, 11, none⟩ = some (.int .i64 a0_11) := (blk_cell BK145.out 11).trans rfl; have hcz41_12 : w36.cell? ⟨gb145, 12, none⟩ = some (.slice A0_12 l0_12.length c0_12) := (blk_cell BK145.out 12).trans rfl; have hfz41_0 := blk_frozen BK145.out 0; have hfz41_1 := blk_frozen BK145.out 1; have hfz41_2 := blk_frozen BK145.out 2; have hfz41_3 := blk_frozen BK145.out 3; have hfz41_4 := blk_frozen BK145.out 4; have hfz41_5 := blk_frozen BK145.out 5; have hfz41_6 := blk_frozen BK145.out 6; have hfz41_7 := blk_frozen BK145.out 7; have hfz41_8 := blk_frozen BK145.out 8; have hfz41_9 := blk_frozen BK145.out 9; have hfz41_10 := blk_frozen BK145.out 10; have hfz41_11 := blk_frozen BK145.out 11; have hfz41_12 := blk_frozen BK145.out 12) | ((with_reducible refine gate_callee (f := 39) rfl ?_); refine goesL_ (some 13) rfl rfl Try.func39 (by kernel_rfl) rfl #[.agg #[.int .i64 a0_0, .int .i64 a0_1, .int .i64 a0_2, .int .i64 a0_3, .int .i64 a0_4, .int .i64 a0_5, .int .i64 a0_6, .int .i64 a0_7, .int .i64 a0_8, .int .i64 a0_9, .string a0_10, .int .i64 a0_11, .slice A0_12 l0_12.length c0_12]] rfl (by (try simp only [List.map_toArray, List.map_cons, List.map_nil]); first | done | rfl | (simp only [List.length_drop, List.length_take]; rfl)) ?_; (with_reducible refine (instance_own.calls a0_0 a0_1 a0_2 a0_3 a0_4 a0_5 a0_6 a0_7 a0_8 a0_9 a0_10 a0_11 _ _ l0_12 t150 t151 t152 t153 t154 t155 t156 t157 t158 t159 t160 t161 t162 _ ?side1 ?side2 A6.out).mono ?_); (case side1 => repeat (first | exact (Kd.C_below HR0_12.out HB.out) | (with_reducible refine Kd.C_alloc ?_ _) | (with_reducible refine Kd.C_drewN ?_ _) | (with_reducible refine Kd.C_drew ?_))); (case side2 => exact HC0_12.out); rintro e w42 ⟨v163, rfl, ho0, hb⟩; refine ⟨_, rfl, ?_⟩; have n0_ := Aside0.mk (Kd.R_lower ho0 (below_size (by repeat (first | (with_reducible first | exact HB.out | apply below_alloc | apply pw_below_drewN | apply below_drew1 | refine below_set ?_ GE145.out | refine below_set ?_ GE146.out | refine below_set ?_ GE147.out | refine below_set ?_ GE148.out | refine below_set ?_ GE149.out) | exact HB.out)))); have n1_ := Aside0.mk (blk_below (g := gb145) (by (with_reducible repeat (first | refine blk_drewN ?_ _ | refine blk_drew ?_ | refine blk_alloc ?_ _)); exact BK145.out) hb); have n2_ := Aside0.mk (blk_below (g := gb146) (by (with_reducible repeat (first | refine blk_drewN ?_ _ | refine blk_drew ?_ | refine blk_alloc ?_ _)); exact BK146.out) hb); have n3_ := Aside0.mk (blk_below (g := gb147) (by (with_reducible repeat (first | refine blk_drewN ?_ _ | refine blk_drew ?_ | refine blk_alloc ?_ _)); exact BK147.out) hb); have n4_ := Aside0.mk (blk_below (g := gb148) (by (with_reducible repeat (first | refine blk_drewN ?_ _ | refine blk_drew ?_ | refine blk_alloc ?_ _)); exact BK148.out) hb); have n5_ := Aside0.mk (blk_below (g := gb149) (by (with_reducible repeat (first | refine blk_drewN ?_ _ | refine blk_drew ?_ | refine blk_alloc ?_ _)); exact BK149.out) hb); have n6_ := Aside0.mk (below_step (by repeat (first | (with_reducible first | exact HB.out | apply below_alloc | apply pw_below_drewN | apply below_drew1 | refine below_set ?_ GE145.out | refine below_set ?_ GE146.out | refine below_set ?_ GE147.out | refine below_set ?_ GE148.out | refine below_set ?_ GE149.out) | exact HB.out)) hb); clear BK145; clear BK146; clear BK147; clear BK148; clear BK149; clear HB; have HO164 := n0_; have BK145 := n1_; have BK146 := n2_; have BK147 := n3_; have BK148 := n4_; have BK149 := n5_; have HB := n6_; clear n0_ n1_ n2_ n3_ n4_ n5_ n6_; (try clear hb); (try clear hb2); (try clear hk); (try clear hi); (try clear ho0); have hcz43_0 : w42.cell? ⟨gb145, 0, none⟩ = some (.int .i64 a0_0) := (blk_cell BK145.out 0).trans rfl; have hcz43_1 : w42.cell? ⟨gb145, 1, none⟩ = some (.int .i64 a0_1) := (blk_cell BK145.out 1).trans rfl; have hcz43_2 : w42.cell? ⟨gb145, 2, none⟩ = some (.int .i64 a0_2) := (blk_cell BK145.out 2).trans rfl; have hcz43_3 : w42.cell? ⟨gb145, 3, none⟩ = some (.int .i64 a0_3) := (blk_cell BK145.out 3).trans rfl; have hcz43_4 : w42.cell? ⟨gb145, 4, none⟩ = some (.int .i64 a0_4) := (blk_cell BK145.out 4).trans rfl; have hcz43_5 : w42.cell? ⟨gb145, 5, none⟩ = some (.int .i64 a0_5) := (blk_cell BK145.out 5).trans rfl; have hcz43_6 : w42.cell? ⟨gb145, 6, none⟩ = some (.int .i64 a0_6) := (blk_cell BK145.out 6).trans rfl; have hcz43_7 : w42.cell? ⟨gb145, 7, none⟩ = some (.int .i64 a0_7) := (blk_cell BK145.out 7).trans rfl; have hcz43_8 : w42.cell? ⟨gb145, 8, none⟩ = some (.int .i64 a0_8) := (blk_cell BK145.out 8).trans rfl; have hcz43_9 : w42.cell? ⟨gb145, 9, none⟩ = some (.int .i64 a0_9) := (blk_cell BK145.out 9).trans rfl; have hcz43_10 : w42.cell? ⟨gb145, 10, none⟩ = some (.string a0_10) := (blk_cell BK145.out 10).trans rfl; have hcz43_11 : w42.cell? ⟨gb145, 11, none⟩ = some (.int .i64 a0_11) := (blk_cell BK145.out 11).trans rfl; have hcz43_12 : w42.cell? ⟨gb145, 12, none⟩ = some (.slice A0_12 l0_12.length c0_12) := (blk_cell BK145.out 12).trans rfl; have hfz43_0 := blk_frozen BK145.out 0; have hfz43_1 := blk_frozen BK145.out 1; have hfz43_2 := blk_frozen BK145.out 2; have hfz43_3 := blk_frozen BK145.out 3; have hfz43_4 := blk_frozen BK145.out 4; have hfz43_5 := blk_frozen BK145.out 5; have hfz43_6 := blk_frozen BK145.out 6; have hfz43_7 := blk_frozen BK145.out 7; have hfz43_8 := blk_frozen BK145.out 8; have hfz43_9 := blk_frozen BK145.out 9; have hfz43_10 := blk_frozen BK145.out 10; have hfz43_11 := blk_frozen BK145.out 11; have hfz43_12 := blk_frozen BK145.out 12; obtain ⟨Ao44, co44, eo44⟩ := Kd.R_slice HO164.out; subst eo44; have hnb45 := NB146_147.out; have hnc45 := NB147_146.out; have hnb46 := NB146_148.out; have hnc46 := NB148_146.out; have hnb47 := NB146_149.out; have hnc47 := NB149_146.out; have hcz48_0 : w42.cell? ⟨gb146, 0, none⟩ = some (.int .i64 a2_0) := (blk_cell BK146.out 0).trans rfl; have hcz48_1 : w42.cell? ⟨gb146, 1, none⟩ = some (.int .i64 a2_1) := (blk_cell BK146.out 1).trans rfl; have hfz48_0 := blk_frozen BK146.out 0; have hfz48_1 := blk_frozen BK146.out 1) | ((with_reducible refine gate_callee (f := 40) rfl ?_); refine goesL_ (some 17) rfl rfl Try.func40 (by kernel_rfl) rfl #[.agg #[.int .i64 t150, .int .i64 t151, .int .i64 t152, .int .i64 t153, .int .i64 t154, .int .i64 t155, .int .i64 t156, .int .i64 t157, .int .i64 t158, .int .i64 t159, .string t160, .int .i64 t161, .slice Ao44 t162.length co44], .agg #[.int .i64 a2_0, .int .i64 a2_1]] rfl (by (try simp only [List.map_toArray, List.map_cons, List.map_nil]); first | done | rfl | (simp only [List.length_drop, List.length_take]; rfl)) ?_; (with_reducible refine (instance_late.calls k t150 t151 t152 t153 t154 t155 t156 t157 t158 t159 t160 t161 _ _ t162 a2_0 a2_1 false _ ?side1 ?side2 A7.out).mono ?_); (case side1 => refine (Kd.R_reads' (e := 3) (base := w.heap.size) (ok := fun k_ => True) (n := t162.length) (c := co44) ?_).2.2; exact (by (with_reducible repeat (first | apply Kd.R_alloc | apply Kd.R_drewN | apply Kd.R_drew)); exact (Kd.R_mono (Kd.R_far13 (g := gb145) (Kd.R_types HO164.out BK145.out (by decide)) (fun _ hk => hk.2)) (fun _ h_ => h_.1)))); (case side2 => exact (Kd.R_reads' HO164.out).2.1); rintro e w49 ⟨rfl, hb⟩; refine ⟨_, rfl, ?_⟩; have n0_ := Aside0.mk (Kd.R_below (by (with_reducible repeat (first | apply Kd.R_alloc | apply Kd.R_drewN | apply Kd.R_drew)); exact (Kd.R_mono (Kd.R_far13 (g := gb145) (Kd.R_types HO164.out BK145.out (by decide)) (fun _ hk => hk.2)) (fun _ h_ => h_.1))) hb); have n1_ := Aside0.mk (blk_below (g := gb145) (o := .cells #[.int .i64 t150, .int .i64 t151, .int .i64 t152, .int .i64 t153, .int .i64 t154, .int .i64 t155, .int .i64 t156, .int .i64 t157, .int .i64 t158, .int .i64 t159, .string t160, .int .i64 t161, .slice Ao44 t162.length co44] 32 (0, 0)) (by (with_reducible repeat (first | refine blk_drewN ?_ _ | refine blk_drew ?_ | refine blk_alloc ?_ _)); refine blk_put13 (cs := #[.int .i64 a0_0, .int .i64 a0_1, .int .i64 a0_2, .int .i64 a0_3, .int .i64 a0_4, .int .i64 a0_5, .int .i64 a0_6, .int .i64 a0_7, .int .i64 a0_8, .int .i64 a0_9, .string a0_10, .int .i64 a0_11, .slice A0_12 l0_12.length c0_12]) ?_ rfl; (with_reducible repeat (first | refine blk_drewN ?_ _ | refine blk_drew ?_ | refine blk_alloc ?_ _)); exact BK145.out) hb); have n2_ := Aside0.mk (blk_below (g := gb146) (o := .cells #[.int .i64 a2_0, .int .i64 a2_1] 25 (0, 0)) (by (with_reducible repeat (first | refine blk_drewN ?_ _ | refine blk_drew ?_ | refine blk_alloc ?_ _)); (iterate 13 (refine blk_far ?_ NB146_145.out _)); (with_reducible repeat (first | refine blk_drewN ?_ _ | refine blk_drew ?_ | refine blk_alloc ?_ _)); exact BK146.out) hb); have n3_ := Aside0.mk (blk_below (g := gb147) (o := .cells #[.int .i64 a3_0, .int .i64 a3_1, .int .i64 a3_2, .int .i64 a3_3, .int .i64 a3_4, .string a3_5] 27 (0, 0)) (by (with_reducible repeat (first | refine blk_drewN ?_ _ | refine blk_drew ?_ | refine blk_alloc ?_ _)); (iterate 13 (refine blk_far ?_ NB147_145.out _)); (with_reducible repeat (first | refine blk_drewN ?_ _ | refine blk_drew ?_ | refine blk_alloc ?_ _)); exact BK147.out) hb); have n4_ := Aside0.mk (blk_below (g := gb148) (o := .cells #[.int .i64 a4_0, .slice A4_1 l4_1.length c4_1] 30 (0, 0)) (by (with_reducible repeat (first | refine blk_drewN ?_ _ | refine blk_drew ?_ | refine blk_alloc ?_ _)); (iterate 13 (refine blk_far ?_ NB148_145.out _)); (with_reducible repeat (first | refine blk_drewN ?_ _ | refine blk_drew ?_ | refine blk_alloc ?_ _)); exact BK148.out) hb); have n5_ := Aside0.mk (blk_below (g := gb149) (o := .cells #[.int .i64 0, .int .i64 0, .int .i64 0, .int .i64 0, .int .i64 0, .int .i64 0, .int .i64 0, .int .i64 0, .int .i64 0, .int .i64 0, .string (⟨#[]⟩ : ByteArray), .int .i64 0, .slice none 0 0] 32 (0, 0)) (by (with_reducible repeat (first | refine blk_drewN ?_ _ | refine blk_drew ?_ | refine blk_alloc ?_ _)); (iterate 13 (refine blk_far ?_ NB149_145.out _)); (with_reducible repeat (first | refine blk_drewN ?_ _ | refine blk_drew ?_ | refine blk_alloc ?_ _)); exact BK149.out) hb); have n6_ := Aside0.mk (below_step (by repeat (first | (with_reducible first | exact HB.out | apply below_alloc | apply pw_below_drewN | apply below_drew1 | refine below_set ?_ GE145.out | refine below_set ?_ GE146.out | refine below_set ?_ GE147.out | refine below_set ?_ GE148.out | refine below_set ?_ GE149.out) | exact HB.out)) hb); clear HO164; clear BK145; clear BK146; clear BK147; clear BK148; clear BK149; clear HB; have HO164 := n0_; have BK145 := n1_; have BK146 := n2_; have BK147 := n3_; have BK148 := n4_; have BK149 := n5_; have HB := n6_; clear n0_ n1_ n2_ n3_ n4_ n5_ n6_; (try clear hb); (try clear hb2); (try clear hk); (try clear hi)))
    (try simp only [Act.put, List.setIfInBounds_toArray, List.set_cons_zero, List.set_cons_succ])
    go_cut [19] (fun v19 wc => ∃ (kq : Nat) (x19_30 : Bool), v19 = .bool x19_30 ∧ Aside0 (instance_vote.j0 kq a1 x19_30 t150 t151 t152 t153 t154 t155 t156 t157 t158 t159 t160 t161 t162 a2_0 a2_1 a3_0 a3_1 a3_2 a3_3 a3_4 a3_5 a4_0 l4_1 = some (r1, r2, r3, r4, r5, r6, r7, r8, r9, r10, r11, r12, r13, r14)) ∧ Aside0 (kq ≤ k) ∧ Aside0 (Kd.R (Kd.int .i64) 3 wc w.heap.size (fun _ => True) (.slice Ao44 t162.length co44) t162) ∧ Aside0 (wc.heap[gb145]? = some (.cells #[.int .i64 t150, .int .i64 t151, .int .i64 t152, .int .i64 t153, .int .i64 t154, .int .i64 t155, .int .i64 t156, .int .i64 t157, .int .i64 t158, .int .i64 t159, .string t160, .int .i64 t161, (.slice Ao44 t162.length co44)] 32 (0, 0))) ∧ Aside0 (wc.heap[gb146]? = some (.cells #[.int .i64 a2_0, .int .i64 a2_1] 25 (0, 0))) ∧ Aside0 (wc.heap[gb147]? = some (.cells #[.int .i64 a3_0, .int .i64 a3_1, .int .i64 a3_2, .int .i64 a3_3, .int .i64 a3_4, .string a3_5] 27 (0, 0))) ∧ Aside0 (wc.heap[gb148]? = some (.cells #[.int .i64 a4_0, (.slice A4_1 l4_1.length c4_1)] 30 (0, 0))) ∧ Aside0 (wc.heap[gb149]? = some (.cells #[.int .i64 0, .int .i64 0, .int .i64 0, .int .i64 0, .int .i64 0, .int .i64 0, .int .i64 0, .int .i64 0, .int .i64 0, .int .i64 0, .string (⟨#[]⟩ : ByteArray), .int .i64 0, (.slice none 0 0)] 32 (0, 0))) ∧ Aside0 (Below w.heap.size w wc))
    case first =>
      have H := HC31.out
      clear HC31
      by_cases c50 : (t153 == a2_0 && (t154 == a2_1)) = true
      · rw [if_pos c50] at H
        have c50b0 : (t153 == a2_0 && (t154 == a2_1)) = true := c50
        (try (have c50b1 : decide (t153 = a2_0 && (t154 == a2_1)) = true := by simpa using c50))
        (try (have c50b2 : (t153 == a2_0 && (t154 == a2_1)) = true := by simpa using c50))
        clear c50
        (first | rw [c50b0] | (simp only [i64_w, i32_w]; rw [c50b0]) | skip)
        have H' := Aside0.mk H
        clear H
        have hnb51 := NB145_146.out
        have hnc51 := NB146_145.out
        have hnb52 := NB145_147.out
        have hnc52 := NB147_145.out
        have hnb53 := NB145_148.out
        have hnc53 := NB148_145.out
        have hnb54 := NB145_149.out
        have hnc54 := NB149_145.out
        have hcz55_0 : w49.cell? ⟨gb145, 0, none⟩ = some (.int .i64 t150) := (blk_cell BK145.out 0).trans rfl
        have hcz55_1 : w49.cell? ⟨gb145, 1, none⟩ = some (.int .i64 t151) := (blk_cell BK145.out 1).trans rfl
        have hcz55_2 : w49.cell? ⟨gb145, 2, none⟩ = some (.int .i64 t152) := (blk_cell BK145.out 2).trans rfl
        have hcz55_3 : w49.cell? ⟨gb145, 3, none⟩ = some (.int .i64 t153) := (blk_cell BK145.out 3).trans rfl
        have hcz55_4 : w49.cell? ⟨gb145, 4, none⟩ = some (.int .i64 t154) := (blk_cell BK145.out 4).trans rfl
        have hcz55_5 : w49.cell? ⟨gb145, 5, none⟩ = some (.int .i64 t155) := (blk_cell BK145.out 5).trans rfl
        have hcz55_6 : w49.cell? ⟨gb145, 6, none⟩ = some (.int .i64 t156) := (blk_cell BK145.out 6).trans rfl
        have hcz55_7 : w49.cell? ⟨gb145, 7, none⟩ = some (.int .i64 t157) := (blk_cell BK145.out 7).trans rfl
        have hcz55_8 : w49.cell? ⟨gb145, 8, none⟩ = some (.int .i64 t158) := (blk_cell BK145.out 8).trans rfl
        have hcz55_9 : w49.cell? ⟨gb145, 9, none⟩ = some (.int .i64 t159) := (blk_cell BK145.out 9).trans rfl
        have hcz55_10 : w49.cell? ⟨gb145, 10, none⟩ = some (.string t160) := (blk_cell BK145.out 10).trans rfl
        have hcz55_11 : w49.cell? ⟨gb145, 11, none⟩ = some (.int .i64 t161) := (blk_cell BK145.out 11).trans rfl
        have hcz55_12 : w49.cell? ⟨gb145, 12, none⟩ = some (.slice Ao44 t162.length co44) := (blk_cell BK145.out 12).trans rfl
        have hfz55_0 := blk_frozen BK145.out 0
        have hfz55_1 := blk_frozen BK145.out 1
        have hfz55_2 := blk_frozen BK145.out 2
        have hfz55_3 := blk_frozen BK145.out 3
        have hfz55_4 := blk_frozen BK145.out 4
        have hfz55_5 := blk_frozen BK145.out 5
        have hfz55_6 := blk_frozen BK145.out 6
        have hfz55_7 := blk_frozen BK145.out 7
        have hfz55_8 := blk_frozen BK145.out 8
        have hfz55_9 := blk_frozen BK145.out 9
        have hfz55_10 := blk_frozen BK145.out 10
        have hfz55_11 := blk_frozen BK145.out 11
        have hfz55_12 := blk_frozen BK145.out 12
        have hnb56 := NB146_147.out
        have hnc56 := NB147_146.out
        have hnb57 := NB146_148.out
        have hnc57 := NB148_146.out
        have hnb58 := NB146_149.out
        have hnc58 := NB149_146.out
        have hcz59_0 : w49.cell? ⟨gb146, 0, none⟩ = some (.int .i64 a2_0) := (blk_cell BK146.out 0).trans rfl
        have hcz59_1 : w49.cell? ⟨gb146, 1, none⟩ = some (.int .i64 a2_1) := (blk_cell BK146.out 1).trans rfl
        have hfz59_0 := blk_frozen BK146.out 0
        have hfz59_1 := blk_frozen BK146.out 1
        go_wp2
        go_meet
        case rel => exact ⟨_, ((t150 == a1)), (by first | rfl | (simp; done) | (simp [*]; done)), H', ⟨by first | omega | exact Nat.le_refl _⟩, ⟨by (with_reducible repeat (first | apply Kd.R_alloc | apply Kd.R_drewN | apply Kd.R_drew)); exact HO164.out⟩, ⟨by (with_reducible repeat (first | refine blk_drewN ?_ _ | refine blk_drew ?_ | refine blk_alloc ?_ _)); exact BK145.out⟩, ⟨by (with_reducible repeat (first | refine blk_drewN ?_ _ | refine blk_drew ?_ | refine blk_alloc ?_ _)); exact BK146.out⟩, ⟨by (with_reducible repeat (first | refine blk_drewN ?_ _ | refine blk_drew ?_ | refine blk_alloc ?_ _)); exact BK147.out⟩, ⟨by (with_reducible repeat (first | refine blk_drewN ?_ _ | refine blk_drew ?_ | refine blk_alloc ?_ _)); exact BK148.out⟩, ⟨by (with_reducible repeat (first | refine blk_drewN ?_ _ | refine blk_drew ?_ | refine blk_alloc ?_ _)); exact BK149.out⟩, ⟨by repeat (first | (with_reducible first | exact HB.out | apply below_alloc | apply pw_below_drewN | apply below_drew1 | refine below_set ?_ GE145.out | refine below_set ?_ GE146.out | refine below_set ?_ GE147.out | refine below_set ?_ GE148.out | refine below_set ?_ GE149.out) | exact HB.out)⟩⟩
      · rw [if_neg c50] at H
        have c50b0 : (t153 == a2_0 && (t154 == a2_1)) = false := by simpa using c50
        (try (have c50b1 : decide (t153 = a2_0 && (t154 == a2_1)) = false := by simpa using c50))
        (try (have c50b2 : (t153 == a2_0 && (t154 == a2_1)) = false := by simpa using c50))
        (try (have c50b3 : ¬ (t153 = a2_0 && (t154 == a2_1)) := by simpa using c50))
        clear c50
        (first | rw [c50b0] | (simp only [i64_w, i32_w]; rw [c50b0]) | skip)
        have H' := Aside0.mk H
        clear H
        have hnb60 := NB145_146.out
        have hnc60 := NB146_145.out
        have hnb61 := NB145_147.out
        have hnc61 := NB147_145.out
        have hnb62 := NB145_148.out
        have hnc62 := NB148_145.out
        have hnb63 := NB145_149.out
        have hnc63 := NB149_145.out
        have hcz64_0 : w49.cell? ⟨gb145, 0, none⟩ = some (.int .i64 t150) := (blk_cell BK145.out 0).trans rfl
        have hcz64_1 : w49.cell? ⟨gb145, 1, none⟩ = some (.int .i64 t151) := (blk_cell BK145.out 1).trans rfl
        have hcz64_2 : w49.cell? ⟨gb145, 2, none⟩ = some (.int .i64 t152) := (blk_cell BK145.out 2).trans rfl
        have hcz64_3 : w49.cell? ⟨gb145, 3, none⟩ = some (.int .i64 t153) := (blk_cell BK145.out 3).trans rfl
        have hcz64_4 : w49.cell? ⟨gb145, 4, none⟩ = some (.int .i64 t154) := (blk_cell BK145.out 4).trans rfl
        have hcz64_5 : w49.cell? ⟨gb145, 5, none⟩ = some (.int .i64 t155) := (blk_cell BK145.out 5).trans rfl
        have hcz64_6 : w49.cell? ⟨gb145, 6, none⟩ = some (.int .i64 t156) := (blk_cell BK145.out 6).trans rfl
        have hcz64_7 : w49.cell? ⟨gb145, 7, none⟩ = some (.int .i64 t157) := (blk_cell BK145.out 7).trans rfl
        have hcz64_8 : w49.cell? ⟨gb145, 8, none⟩ = some (.int .i64 t158) := (blk_cell BK145.out 8).trans rfl
        have hcz64_9 : w49.cell? ⟨gb145, 9, none⟩ = some (.int .i64 t159) := (blk_cell BK145.out 9).trans rfl
        have hcz64_10 : w49.cell? ⟨gb145, 10, none⟩ = some (.string t160) := (blk_cell BK145.out 10).trans rfl
        have hcz64_11 : w49.cell? ⟨gb145, 11, none⟩ = some (.int .i64 t161) := (blk_cell BK145.out 11).trans rfl
        have hcz64_12 : w49.cell? ⟨gb145, 12, none⟩ = some (.slice Ao44 t162.length co44) := (blk_cell BK145.out 12).trans rfl
        have hfz64_0 := blk_frozen BK145.out 0
        have hfz64_1 := blk_frozen BK145.out 1
        have hfz64_2 := blk_frozen BK145.out 2
        have hfz64_3 := blk_frozen BK145.out 3
        have hfz64_4 := blk_frozen BK145.out 4
        have hfz64_5 := blk_frozen BK145.out 5
        have hfz64_6 := blk_frozen BK145.out 6
        have hfz64_7 := blk_frozen BK145.out 7
        have hfz64_8 := blk_frozen BK145.out 8
        have hfz64_9 := blk_frozen BK145.out 9
        have hfz64_10 := blk_frozen BK145.out 10
        have hfz64_11 := blk_frozen BK145.out 11
        have hfz64_12 := blk_frozen BK145.out 12
        have hnb65 := NB146_147.out
        have hnc65 := NB147_146.out
        have hnb66 := NB146_148.out
        have hnc66 := NB148_146.out
        have hnb67 := NB146_149.out
        have hnc67 := NB149_146.out
        have hcz68_0 : w49.cell? ⟨gb146, 0, none⟩ = some (.int .i64 a2_0) := (blk_cell BK146.out 0).trans rfl
        have hcz68_1 : w49.cell? ⟨gb146, 1, none⟩ = some (.int .i64 a2_1) := (blk_cell BK146.out 1).trans rfl
        have hfz68_0 := blk_frozen BK146.out 0
        have hfz68_1 := blk_frozen BK146.out 1
        go_wp2
        go_meet
        case rel => exact ⟨_, (false), (by first | rfl | (simp; done) | (simp [*]; done)), H', ⟨by first | omega | exact Nat.le_refl _⟩, ⟨by (with_reducible repeat (first | apply Kd.R_alloc | apply Kd.R_drewN | apply Kd.R_drew)); exact HO164.out⟩, ⟨by (with_reducible repeat (first | refine blk_drewN ?_ _ | refine blk_drew ?_ | refine blk_alloc ?_ _)); exact BK145.out⟩, ⟨by (with_reducible repeat (first | refine blk_drewN ?_ _ | refine blk_drew ?_ | refine blk_alloc ?_ _)); exact BK146.out⟩, ⟨by (with_reducible repeat (first | refine blk_drewN ?_ _ | refine blk_drew ?_ | refine blk_alloc ?_ _)); exact BK147.out⟩, ⟨by (with_reducible repeat (first | refine blk_drewN ?_ _ | refine blk_drew ?_ | refine blk_alloc ?_ _)); exact BK148.out⟩, ⟨by (with_reducible repeat (first | refine blk_drewN ?_ _ | refine blk_drew ?_ | refine blk_alloc ?_ _)); exact BK149.out⟩, ⟨by repeat (first | (with_reducible first | exact HB.out | apply below_alloc | apply pw_below_drewN | apply below_drew1 | refine below_set ?_ GE145.out | refine below_set ?_ GE146.out | refine below_set ?_ GE147.out | refine below_set ?_ GE148.out | refine below_set ?_ GE149.out) | exact HB.out)⟩⟩
    case rest =>
      clear HC31
      try clear c1
      try clear c2
      try clear p2
      try clear c3
      try clear c4
      try clear c5
      try clear c6
      try clear c8
      try clear c14
      try clear c15
      try clear c16
      try clear c17
      try clear c22
      try clear c23
      try clear c24
      try clear c28
      try clear c29
      try clear c37
      try clear c38
      try clear c39
      try clear c40
      try clear c41
      try clear c45
      try clear c46
      try clear c47
      try clear c50
      try clear c50b0
      try clear c50b1
      try clear c50b2
      try clear c51
      try clear c52
      try clear c53
      try clear c54
      try clear c56
      try clear c57
      try clear c58
      try clear c60
      try clear c61
      try clear c62
      try clear c63
      try clear c65
      try clear c66
      try clear c67
      try clear hcz18_0
      try clear hcz18_1
      try clear hcz18_10
      try clear hcz18_11
      try clear hcz18_12
      try clear hcz18_2
      try clear hcz18_3
      try clear hcz18_4
      try clear hcz18_5
      try clear hcz18_6
      try clear hcz18_7
      try clear hcz18_8
      try clear hcz18_9
      try clear hcz20_0
      try clear hcz20_1
      try clear hcz20_10
      try clear hcz20_11
      try clear hcz20_12
      try clear hcz20_2
      try clear hcz20_3
      try clear hcz20_4
      try clear hcz20_5
      try clear hcz20_6
      try clear hcz20_7
      try clear hcz20_8
      try clear hcz20_9
      try clear hcz25_0
      try clear hcz25_1
      try clear hcz27_0
      try clear hcz27_1
      try clear hcz27_10
      try clear hcz27_11
      try clear hcz27_12
      try clear hcz27_2
      try clear hcz27_3
      try clear hcz27_4
      try clear hcz27_5
      try clear hcz27_6
      try clear hcz27_7
      try clear hcz27_8
      try clear hcz27_9
      try clear hcz30_0
      try clear hcz30_1
      try clear hcz30_10
      try clear hcz30_11
      try clear hcz30_12
      try clear hcz30_2
      try clear hcz30_3
      try clear hcz30_4
      try clear hcz30_5
      try clear hcz30_6
      try clear hcz30_7
      try clear hcz30_8
      try clear hcz30_9
      try clear hcz41_0
      try clear hcz41_1
      try clear hcz41_10
      try clear hcz41_11
      try clear hcz41_12
      try clear hcz41_2
      try clear hcz41_3
      try clear hcz41_4
      try clear hcz41_5
      try clear hcz41_6
      try clear hcz41_7
      try clear hcz41_8
      try clear hcz41_9
      try clear hcz43_0
      try clear hcz43_1
      try clear hcz43_10
      try clear hcz43_11
      try clear hcz43_12
      try clear hcz43_2
      try clear hcz43_3
      try clear hcz43_4
      try clear hcz43_5
      try clear hcz43_6
      try clear hcz43_7
      try clear hcz43_8
      try clear hcz43_9
      try clear hcz48_0
      try clear hcz48_1
      try clear hcz55_0
      try clear hcz55_1
      try clear hcz55_10
      try clear hcz55_11
      try clear hcz55_12
      try clear hcz55_2
      try clear hcz55_3
      try clear hcz55_4
      try clear hcz55_5
      try clear hcz55_6
      try clear hcz55_7
      try clear hcz55_8
      try clear hcz55_9
      try clear hcz59_0
      try clear hcz59_1
      try clear hcz64_0
      try clear hcz64_1
      try clear hcz64_10
      try clear hcz64_11
      try clear hcz64_12
      try clear hcz64_2
      try clear hcz64_3
      try clear hcz64_4
      try clear hcz64_5
      try clear hcz64_6
      try clear hcz64_7
      try clear hcz64_8
      try clear hcz64_9
      try clear hcz68_0
      try clear hcz68_1
      try clear hfz18_0
      try clear hfz18_1
      try clear hfz18_10
      try clear hfz18_11
      try clear hfz18_12
      try clear hfz18_2
      try clear hfz18_3
      try clear hfz18_4
      try clear hfz18_5
      try clear hfz18_6
      try clear hfz18_7
      try clear hfz18_8
      try clear hfz18_9
      try clear hfz20_0
      try clear hfz20_1
      try clear hfz20_10
      try clear hfz20_11
      try clear hfz20_12
      try clear hfz20_2
      try clear hfz20_3
      try clear hfz20_4
      try clear hfz20_5
      try clear hfz20_6
      try clear hfz20_7
      try clear hfz20_8
      try clear hfz20_9
      try clear hfz25_0
      try clear hfz25_1
      try clear hfz27_0
      try clear hfz27_1
      try clear hfz27_10
      try clear hfz27_11
      try clear hfz27_12
      try clear hfz27_2
      try clear hfz27_3
      try clear hfz27_4
      try clear hfz27_5
      try clear hfz27_6
      try clear hfz27_7
      try clear hfz27_8
      try clear hfz27_9
      try clear hfz30_0
      try clear hfz30_1
      try clear hfz30_10
      try clear hfz30_11
      try clear hfz30_12
      try clear hfz30_2
      try clear hfz30_3
      try clear hfz30_4
      try clear hfz30_5
      try clear hfz30_6
      try clear hfz30_7
      try clear hfz30_8
      try clear hfz30_9
      try clear hfz41_0
      try clear hfz41_1
      try clear hfz41_10
      try clear hfz41_11
      try clear hfz41_12
      try clear hfz41_2
      try clear hfz41_3
      try clear hfz41_4
      try clear hfz41_5
      try clear hfz41_6
      try clear hfz41_7
      try clear hfz41_8
      try clear hfz41_9
      try clear hfz43_0
      try clear hfz43_1
      try clear hfz43_10
      try clear hfz43_11
      try clear hfz43_12
      try clear hfz43_2
      try clear hfz43_3
      try clear hfz43_4
      try clear hfz43_5
      try clear hfz43_6
      try clear hfz43_7
      try clear hfz43_8
      try clear hfz43_9
      try clear hfz48_0
      try clear hfz48_1
      try clear hfz55_0
      try clear hfz55_1
      try clear hfz55_10
      try clear hfz55_11
      try clear hfz55_12
      try clear hfz55_2
      try clear hfz55_3
      try clear hfz55_4
      try clear hfz55_5
      try clear hfz55_6
      try clear hfz55_7
      try clear hfz55_8
      try clear hfz55_9
      try clear hfz59_0
      try clear hfz59_1
      try clear hfz64_0
      try clear hfz64_1
      try clear hfz64_10
      try clear hfz64_11
      try clear hfz64_12
      try clear hfz64_2
      try clear hfz64_3
      try clear hfz64_4
      try clear hfz64_5
      try clear hfz64_6
      try clear hfz64_7
      try clear hfz64_8
      try clear hfz64_9
      try clear hfz68_0
      try clear hfz68_1
      obtain ⟨kq, x19_30, rfl, HA, HJ30, HO_146012, BK145, BK146, BK147, BK148, BK149, HB⟩ := hcut
      cases kq with
      | zero => exact absurd HA.out (by simp [instance_vote.j0])
      | succ kj30 =>
        have H := HA.out
        clear HA
        simp only [instance_vote.j0] at H
        by_cases c69 : x19_30 = true
        · subst c69
          have H1 : (some (t150, t151, t152, t153, t154, t155, t156, t157, t158, t159, t160, t161, t162, true)) = some (r1, r2, r3, r4, r5, r6, r7, r8, r9, r10, r11, r12, r13, r14) := by rw [if_pos rfl] at H; exact H
          clear H
          have H := H1
          clear H1
          simp only [Option.some.injEq, Prod.mk.injEq] at H
          obtain ⟨rfl, rfl, rfl, rfl, rfl, rfl, rfl, rfl, rfl, rfl, rfl, rfl, rfl, rfl⟩ := H
          have hnb70 := NB145_146.out
          have hnc70 := NB146_145.out
          have hnb71 := NB145_147.out
          have hnc71 := NB147_145.out
          have hnb72 := NB145_148.out
          have hnc72 := NB148_145.out
          have hnb73 := NB145_149.out
          have hnc73 := NB149_145.out
          have hcz74_0 : wc.cell? ⟨gb145, 0, none⟩ = some (.int .i64 t150) := (blk_cell BK145.out 0).trans rfl
          have hcz74_1 : wc.cell? ⟨gb145, 1, none⟩ = some (.int .i64 t151) := (blk_cell BK145.out 1).trans rfl
          have hcz74_2 : wc.cell? ⟨gb145, 2, none⟩ = some (.int .i64 t152) := (blk_cell BK145.out 2).trans rfl
          have hcz74_3 : wc.cell? ⟨gb145, 3, none⟩ = some (.int .i64 t153) := (blk_cell BK145.out 3).trans rfl
          have hcz74_4 : wc.cell? ⟨gb145, 4, none⟩ = some (.int .i64 t154) := (blk_cell BK145.out 4).trans rfl
          have hcz74_5 : wc.cell? ⟨gb145, 5, none⟩ = some (.int .i64 t155) := (blk_cell BK145.out 5).trans rfl
          have hcz74_6 : wc.cell? ⟨gb145, 6, none⟩ = some (.int .i64 t156) := (blk_cell BK145.out 6).trans rfl
          have hcz74_7 : wc.cell? ⟨gb145, 7, none⟩ = some (.int .i64 t157) := (blk_cell BK145.out 7).trans rfl
          have hcz74_8 : wc.cell? ⟨gb145, 8, none⟩ = some (.int .i64 t158) := (blk_cell BK145.out 8).trans rfl
          have hcz74_9 : wc.cell? ⟨gb145, 9, none⟩ = some (.int .i64 t159) := (blk_cell BK145.out 9).trans rfl
          have hcz74_10 : wc.cell? ⟨gb145, 10, none⟩ = some (.string t160) := (blk_cell BK145.out 10).trans rfl
          have hcz74_11 : wc.cell? ⟨gb145, 11, none⟩ = some (.int .i64 t161) := (blk_cell BK145.out 11).trans rfl
          have hcz74_12 : wc.cell? ⟨gb145, 12, none⟩ = some (.slice Ao44 t162.length co44) := (blk_cell BK145.out 12).trans rfl
          have hfz74_0 := blk_frozen BK145.out 0
          have hfz74_1 := blk_frozen BK145.out 1
          have hfz74_2 := blk_frozen BK145.out 2
          have hfz74_3 := blk_frozen BK145.out 3
          have hfz74_4 := blk_frozen BK145.out 4
          have hfz74_5 := blk_frozen BK145.out 5
          have hfz74_6 := blk_frozen BK145.out 6
          have hfz74_7 := blk_frozen BK145.out 7
          have hfz74_8 := blk_frozen BK145.out 8
          have hfz74_9 := blk_frozen BK145.out 9
          have hfz74_10 := blk_frozen BK145.out 10
          have hfz74_11 := blk_frozen BK145.out 11
          have hfz74_12 := blk_frozen BK145.out 12
          have hnb75 := NB149_146.out
          have hnc75 := NB146_149.out
          have hnb76 := NB149_147.out
          have hnc76 := NB147_149.out
          have hnb77 := NB149_148.out
          have hnc77 := NB148_149.out
          have hcz78_0 : wc.cell? ⟨gb149, 0, none⟩ = some (.int .i64 0) := (blk_cell BK149.out 0).trans rfl
          have hcz78_1 : wc.cell? ⟨gb149, 1, none⟩ = some (.int .i64 0) := (blk_cell BK149.out 1).trans rfl
          have hcz78_2 : wc.cell? ⟨gb149, 2, none⟩ = some (.int .i64 0) := (blk_cell BK149.out 2).trans rfl
          have hcz78_3 : wc.cell? ⟨gb149, 3, none⟩ = some (.int .i64 0) := (blk_cell BK149.out 3).trans rfl
          have hcz78_4 : wc.cell? ⟨gb149, 4, none⟩ = some (.int .i64 0) := (blk_cell BK149.out 4).trans rfl
          have hcz78_5 : wc.cell? ⟨gb149, 5, none⟩ = some (.int .i64 0) := (blk_cell BK149.out 5).trans rfl
          have hcz78_6 : wc.cell? ⟨gb149, 6, none⟩ = some (.int .i64 0) := (blk_cell BK149.out 6).trans rfl
          have hcz78_7 : wc.cell? ⟨gb149, 7, none⟩ = some (.int .i64 0) := (blk_cell BK149.out 7).trans rfl
          have hcz78_8 : wc.cell? ⟨gb149, 8, none⟩ = some (.int .i64 0) := (blk_cell BK149.out 8).trans rfl
          have hcz78_9 : wc.cell? ⟨gb149, 9, none⟩ = some (.int .i64 0) := (blk_cell BK149.out 9).trans rfl
          have hcz78_10 : wc.cell? ⟨gb149, 10, none⟩ = some (.string (⟨#[]⟩ : ByteArray)) := (blk_cell BK149.out 10).trans rfl
          have hcz78_11 : wc.cell? ⟨gb149, 11, none⟩ = some (.int .i64 0) := (blk_cell BK149.out 11).trans rfl
          have hcz78_12 : wc.cell? ⟨gb149, 12, none⟩ = some (.slice none 0 0) := (blk_cell BK149.out 12).trans rfl
          have hfz78_0 := blk_frozen BK149.out 0
          have hfz78_1 := blk_frozen BK149.out 1
          have hfz78_2 := blk_frozen BK149.out 2
          have hfz78_3 := blk_frozen BK149.out 3
          have hfz78_4 := blk_frozen BK149.out 4
          have hfz78_5 := blk_frozen BK149.out 5
          have hfz78_6 := blk_frozen BK149.out 6
          have hfz78_7 := blk_frozen BK149.out 7
          have hfz78_8 := blk_frozen BK149.out 8
          have hfz78_9 := blk_frozen BK149.out 9
          have hfz78_10 := blk_frozen BK149.out 10
          have hfz78_11 := blk_frozen BK149.out 11
          have hfz78_12 := blk_frozen BK149.out 12
          go_wp2
          refine bodyPost_ret (results_ct rfl _ _ gb149 32 #[.int .i64 t150, .int .i64 t151, .int .i64 t152, .int .i64 t153, .int .i64 t154, .int .i64 t155, .int .i64 t156, .int .i64 t157, .int .i64 t158, .int .i64 t159, .string t160, .int .i64 t161, .slice Ao44 t162.length co44] (0, 0) _ rfl (by (with_reducible repeat (first | refine blk_drewN ?_ _ | refine blk_drew ?_ | refine blk_alloc ?_ _)); refine blk_put13 (cs := #[.int .i64 0, .int .i64 0, .int .i64 0, .int .i64 0, .int .i64 0, .int .i64 0, .int .i64 0, .int .i64 0, .int .i64 0, .int .i64 0, .string (⟨#[]⟩ : ByteArray), .int .i64 0, .slice none 0 0]) ?_ rfl; (with_reducible repeat (first | refine blk_drewN ?_ _ | refine blk_drew ?_ | refine blk_alloc ?_ _)); exact BK149.out) Try.underlying32 rfl (by kernel_rfl)) rfl ?_
          exact ⟨_, by first | rfl | (simp [errW_none, errW_some] <;> rfl) | (simp [*, errW_none, errW_some] <;> rfl), by (with_reducible repeat (first | apply Kd.R_alloc | apply Kd.R_drewN | apply Kd.R_drew)); exact Kd.R_mono (Kd.R_far13 (g := gb149) (Kd.R_types HO_146012.out BK149.out (by decide)) (fun _ hk => hk.2)) (fun _ hk => trivial), by repeat (first | (with_reducible first | exact HB.out | apply below_alloc | apply pw_below_drewN | apply below_drew1 | refine below_set ?_ GE145.out | refine below_set ?_ GE146.out | refine below_set ?_ GE147.out | refine below_set ?_ GE148.out | refine below_set ?_ GE149.out) | exact HB.out)⟩
        · replace c69 := Bool.eq_false_iff.mpr c69
          subst c69
          have H1 : (if (t153 == a2_0 && (t154 == a2_1)) = true then (if t150 = 2 then (if a1 = 1 then (some (t150, t151, t152, t153, t154, t155, t156, t157, t158, t159, t160, t161, t162, false)) else ((instance_own.f a1 a2_0 a2_1 a2_0 a2_1 a3_0 a3_1 a3_2 a3_3 a3_4 a3_5 a4_0 l4_1).bind fun bt166 => (some (bt166.1, bt166.2.1, bt166.2.2.1, bt166.2.2.2.1, bt166.2.2.2.2.1, bt166.2.2.2.2.2.1, bt166.2.2.2.2.2.2.1, bt166.2.2.2.2.2.2.2.1, bt166.2.2.2.2.2.2.2.2.1, bt166.2.2.2.2.2.2.2.2.2.1, bt166.2.2.2.2.2.2.2.2.2.2.1, bt166.2.2.2.2.2.2.2.2.2.2.2.1, bt166.2.2.2.2.2.2.2.2.2.2.2.2, true)))) else ((instance_own.f a1 a2_0 a2_1 a2_0 a2_1 a3_0 a3_1 a3_2 a3_3 a3_4 a3_5 a4_0 l4_1).bind fun bt181 => (some (bt181.1, bt181.2.1, bt181.2.2.1, bt181.2.2.2.1, bt181.2.2.2.2.1, bt181.2.2.2.2.2.1, bt181.2.2.2.2.2.2.1, bt181.2.2.2.2.2.2.2.1, bt181.2.2.2.2.2.2.2.2.1, bt181.2.2.2.2.2.2.2.2.2.1, bt181.2.2.2.2.2.2.2.2.2.2.1, bt181.2.2.2.2.2.2.2.2.2.2.2.1, bt181.2.2.2.2.2.2.2.2.2.2.2.2, true)))) else ((instance_own.f a1 a2_0 a2_1 a2_0 a2_1 a3_0 a3_1 a3_2 a3_3 a3_4 a3_5 a4_0 l4_1).bind fun bt196 => (some (bt196.1, bt196.2.1, bt196.2.2.1, bt196.2.2.2.1, bt196.2.2.2.2.1, bt196.2.2.2.2.2.1, bt196.2.2.2.2.2.2.1, bt196.2.2.2.2.2.2.2.1, bt196.2.2.2.2.2.2.2.2.1, bt196.2.2.2.2.2.2.2.2.2.1, bt196.2.2.2.2.2.2.2.2.2.2.1, bt196.2.2.2.2.2.2.2.2.2.2.2.1, bt196.2.2.2.2.2.2.2.2.2.2.2.2, true)))) = some (r1, r2, r3, r4, r5, r6, r7, r8, r9, r10, r11, r12, r13, r14) := by rw [if_neg (show ¬ (false = true) by decide)] at H; exact H
          clear H
          have H := H1
          clear H1
          by_cases c79 : (t153 == a2_0 && (t154 == a2_1)) = true
          · rw [if_pos c79] at H
            have c79b0 : (t153 == a2_0 && (t154 == a2_1)) = true := c79
            (try (have c79b1 : decide (t153 = a2_0 && (t154 == a2_1)) = true := by simpa using c79))
            (try (have c79b2 : (t153 == a2_0 && (t154 == a2_1)) = true := by simpa using c79))
            clear c79
            by_cases c80 : t150 = 2
            · rw [if_pos c80] at H
              have c80b0 : (t150 == 2) = true := beq_iff_eq.mpr c80
              have c80b1 : (t150 != 2) = false := bne_eq_false_iff_eq.mpr c80
              clear c80
              by_cases c81 : a1 = 1
              · rw [if_pos c81] at H
                have c81b0 : (a1 == 1) = true := beq_iff_eq.mpr c81
                have c81b1 : (a1 != 1) = false := bne_eq_false_iff_eq.mpr c81
                clear c81
                simp only [Option.some.injEq, Prod.mk.injEq] at H
                obtain ⟨rfl, rfl, rfl, rfl, rfl, rfl, rfl, rfl, rfl, rfl, rfl, rfl, rfl, rfl⟩ := H
                have hnb82 := NB145_146.out
                have hnc82 := NB146_145.out
                have hnb83 := NB145_147.out
                have hnc83 := NB147_145.out
                have hnb84 := NB145_148.out
                have hnc84 := NB148_145.out
                have hnb85 := NB145_149.out
                have hnc85 := NB149_145.out
                have hcz86_0 : wc.cell? ⟨gb145, 0, none⟩ = some (.int .i64 t150) := (blk_cell BK145.out 0).trans rfl
                have hcz86_1 : wc.cell? ⟨gb145, 1, none⟩ = some (.int .i64 t151) := (blk_cell BK145.out 1).trans rfl
                have hcz86_2 : wc.cell? ⟨gb145, 2, none⟩ = some (.int .i64 t152) := (blk_cell BK145.out 2).trans rfl
                have hcz86_3 : wc.cell? ⟨gb145, 3, none⟩ = some (.int .i64 t153) := (blk_cell BK145.out 3).trans rfl
                have hcz86_4 : wc.cell? ⟨gb145, 4, none⟩ = some (.int .i64 t154) := (blk_cell BK145.out 4).trans rfl
                have hcz86_5 : wc.cell? ⟨gb145, 5, none⟩ = some (.int .i64 t155) := (blk_cell BK145.out 5).trans rfl
                have hcz86_6 : wc.cell? ⟨gb145, 6, none⟩ = some (.int .i64 t156) := (blk_cell BK145.out 6).trans rfl
                have hcz86_7 : wc.cell? ⟨gb145, 7, none⟩ = some (.int .i64 t157) := (blk_cell BK145.out 7).trans rfl
                have hcz86_8 : wc.cell? ⟨gb145, 8, none⟩ = some (.int .i64 t158) := (blk_cell BK145.out 8).trans rfl
                have hcz86_9 : wc.cell? ⟨gb145, 9, none⟩ = some (.int .i64 t159) := (blk_cell BK145.out 9).trans rfl
                have hcz86_10 : wc.cell? ⟨gb145, 10, none⟩ = some (.string t160) := (blk_cell BK145.out 10).trans rfl
                have hcz86_11 : wc.cell? ⟨gb145, 11, none⟩ = some (.int .i64 t161) := (blk_cell BK145.out 11).trans rfl
                have hcz86_12 : wc.cell? ⟨gb145, 12, none⟩ = some (.slice Ao44 t162.length co44) := (blk_cell BK145.out 12).trans rfl
                have hfz86_0 := blk_frozen BK145.out 0
                have hfz86_1 := blk_frozen BK145.out 1
                have hfz86_2 := blk_frozen BK145.out 2
                have hfz86_3 := blk_frozen BK145.out 3
                have hfz86_4 := blk_frozen BK145.out 4
                have hfz86_5 := blk_frozen BK145.out 5
                have hfz86_6 := blk_frozen BK145.out 6
                have hfz86_7 := blk_frozen BK145.out 7
                have hfz86_8 := blk_frozen BK145.out 8
                have hfz86_9 := blk_frozen BK145.out 9
                have hfz86_10 := blk_frozen BK145.out 10
                have hfz86_11 := blk_frozen BK145.out 11
                have hfz86_12 := blk_frozen BK145.out 12
                have hnb87 := NB146_147.out
                have hnc87 := NB147_146.out
                have hnb88 := NB146_148.out
                have hnc88 := NB148_146.out
                have hnb89 := NB146_149.out
                have hnc89 := NB149_146.out
                have hcz90_0 : wc.cell? ⟨gb146, 0, none⟩ = some (.int .i64 a2_0) := (blk_cell BK146.out 0).trans rfl
                have hcz90_1 : wc.cell? ⟨gb146, 1, none⟩ = some (.int .i64 a2_1) := (blk_cell BK146.out 1).trans rfl
                have hfz90_0 := blk_frozen BK146.out 0
                have hfz90_1 := blk_frozen BK146.out 1
                have hnb91 := NB149_147.out
                have hnc91 := NB147_149.out
                have hnb92 := NB149_148.out
                have hnc92 := NB148_149.out
                have hcz93_0 : wc.cell? ⟨gb149, 0, none⟩ = some (.int .i64 0) := (blk_cell BK149.out 0).trans rfl
                have hcz93_1 : wc.cell? ⟨gb149, 1, none⟩ = some (.int .i64 0) := (blk_cell BK149.out 1).trans rfl
                have hcz93_2 : wc.cell? ⟨gb149, 2, none⟩ = some (.int .i64 0) := (blk_cell BK149.out 2).trans rfl
                have hcz93_3 : wc.cell? ⟨gb149, 3, none⟩ = some (.int .i64 0) := (blk_cell BK149.out 3).trans rfl
                have hcz93_4 : wc.cell? ⟨gb149, 4, none⟩ = some (.int .i64 0) := (blk_cell BK149.out 4).trans rfl
                have hcz93_5 : wc.cell? ⟨gb149, 5, none⟩ = some (.int .i64 0) := (blk_cell BK149.out 5).trans rfl
                have hcz93_6 : wc.cell? ⟨gb149, 6, none⟩ = some (.int .i64 0) := (blk_cell BK149.out 6).trans rfl
                have hcz93_7 : wc.cell? ⟨gb149, 7, none⟩ = some (.int .i64 0) := (blk_cell BK149.out 7).trans rfl
                have hcz93_8 : wc.cell? ⟨gb149, 8, none⟩ = some (.int .i64 0) := (blk_cell BK149.out 8).trans rfl
                have hcz93_9 : wc.cell? ⟨gb149, 9, none⟩ = some (.int .i64 0) := (blk_cell BK149.out 9).trans rfl
                have hcz93_10 : wc.cell? ⟨gb149, 10, none⟩ = some (.string (⟨#[]⟩ : ByteArray)) := (blk_cell BK149.out 10).trans rfl
                have hcz93_11 : wc.cell? ⟨gb149, 11, none⟩ = some (.int .i64 0) := (blk_cell BK149.out 11).trans rfl
                have hcz93_12 : wc.cell? ⟨gb149, 12, none⟩ = some (.slice none 0 0) := (blk_cell BK149.out 12).trans rfl
                have hfz93_0 := blk_frozen BK149.out 0
                have hfz93_1 := blk_frozen BK149.out 1
                have hfz93_2 := blk_frozen BK149.out 2
                have hfz93_3 := blk_frozen BK149.out 3
                have hfz93_4 := blk_frozen BK149.out 4
                have hfz93_5 := blk_frozen BK149.out 5
                have hfz93_6 := blk_frozen BK149.out 6
                have hfz93_7 := blk_frozen BK149.out 7
                have hfz93_8 := blk_frozen BK149.out 8
                have hfz93_9 := blk_frozen BK149.out 9
                have hfz93_10 := blk_frozen BK149.out 10
                have hfz93_11 := blk_frozen BK149.out 11
                have hfz93_12 := blk_frozen BK149.out 12
                go_wp2
                refine bodyPost_ret (results_ct rfl _ _ gb149 32 #[.int .i64 t150, .int .i64 t151, .int .i64 t152, .int .i64 t153, .int .i64 t154, .int .i64 t155, .int .i64 t156, .int .i64 t157, .int .i64 t158, .int .i64 t159, .string t160, .int .i64 t161, .slice Ao44 t162.length co44] (0, 0) _ rfl (by (with_reducible repeat (first | refine blk_drewN ?_ _ | refine blk_drew ?_ | refine blk_alloc ?_ _)); refine blk_put13 (cs := #[.int .i64 0, .int .i64 0, .int .i64 0, .int .i64 0, .int .i64 0, .int .i64 0, .int .i64 0, .int .i64 0, .int .i64 0, .int .i64 0, .string (⟨#[]⟩ : ByteArray), .int .i64 0, .slice none 0 0]) ?_ rfl; (with_reducible repeat (first | refine blk_drewN ?_ _ | refine blk_drew ?_ | refine blk_alloc ?_ _)); exact BK149.out) Try.underlying32 rfl (by kernel_rfl)) rfl ?_
                exact ⟨_, by first | rfl | (simp [errW_none, errW_some] <;> rfl) | (simp [*, errW_none, errW_some] <;> rfl), by (with_reducible repeat (first | apply Kd.R_alloc | apply Kd.R_drewN | apply Kd.R_drew)); exact Kd.R_mono (Kd.R_far13 (g := gb149) (Kd.R_types HO_146012.out BK149.out (by decide)) (fun _ hk => hk.2)) (fun _ hk => trivial), by repeat (first | (with_reducible first | exact HB.out | apply below_alloc | apply pw_below_drewN | apply below_drew1 | refine below_set ?_ GE145.out | refine below_set ?_ GE146.out | refine below_set ?_ GE147.out | refine below_set ?_ GE148.out | refine below_set ?_ GE149.out) | exact HB.out)⟩
              · rw [if_neg c81] at H
                have c81b0 : (a1 == 1) = false := beq_eq_false_iff_ne.mpr c81
                have c81b1 : (a1 != 1) = true := bne_iff_ne.mpr c81
                replace H := Option.bind_eq_some_iff.mp H
                obtain ⟨⟨t166, t167, t168, t169, t170, t171, t172, t173, t174, t175, t176, t177, t178⟩, A940, H⟩ := H
                replace H : (some (t166, t167, t168, t169, t170, t171, t172, t173, t174, t175, t176, t177, t178, true)) = some (r1, r2, r3, r4, r5, r6, r7, r8, r9, r10, r11, r12, r13, r14) := H
                have A94 := Aside0.mk A940
                clear A940
                simp only [Option.some.injEq, Prod.mk.injEq] at H
                obtain ⟨rfl, rfl, rfl, rfl, rfl, rfl, rfl, rfl, rfl, rfl, rfl, rfl, rfl, rfl⟩ := H
                have hnb95 := NB145_146.out
                have hnc95 := NB146_145.out
                have hnb96 := NB145_147.out
                have hnc96 := NB147_145.out
                have hnb97 := NB145_148.out
                have hnc97 := NB148_145.out
                have hnb98 := NB145_149.out
                have hnc98 := NB149_145.out
                have hcz99_0 : wc.cell? ⟨gb145, 0, none⟩ = some (.int .i64 t150) := (blk_cell BK145.out 0).trans rfl
                have hcz99_1 : wc.cell? ⟨gb145, 1, none⟩ = some (.int .i64 t151) := (blk_cell BK145.out 1).trans rfl
                have hcz99_2 : wc.cell? ⟨gb145, 2, none⟩ = some (.int .i64 t152) := (blk_cell BK145.out 2).trans rfl
                have hcz99_3 : wc.cell? ⟨gb145, 3, none⟩ = some (.int .i64 t153) := (blk_cell BK145.out 3).trans rfl
                have hcz99_4 : wc.cell? ⟨gb145, 4, none⟩ = some (.int .i64 t154) := (blk_cell BK145.out 4).trans rfl
                have hcz99_5 : wc.cell? ⟨gb145, 5, none⟩ = some (.int .i64 t155) := (blk_cell BK145.out 5).trans rfl
                have hcz99_6 : wc.cell? ⟨gb145, 6, none⟩ = some (.int .i64 t156) := (blk_cell BK145.out 6).trans rfl
                have hcz99_7 : wc.cell? ⟨gb145, 7, none⟩ = some (.int .i64 t157) := (blk_cell BK145.out 7).trans rfl
                have hcz99_8 : wc.cell? ⟨gb145, 8, none⟩ = some (.int .i64 t158) := (blk_cell BK145.out 8).trans rfl
                have hcz99_9 : wc.cell? ⟨gb145, 9, none⟩ = some (.int .i64 t159) := (blk_cell BK145.out 9).trans rfl
                have hcz99_10 : wc.cell? ⟨gb145, 10, none⟩ = some (.string t160) := (blk_cell BK145.out 10).trans rfl
                have hcz99_11 : wc.cell? ⟨gb145, 11, none⟩ = some (.int .i64 t161) := (blk_cell BK145.out 11).trans rfl
                have hcz99_12 : wc.cell? ⟨gb145, 12, none⟩ = some (.slice Ao44 t162.length co44) := (blk_cell BK145.out 12).trans rfl
                have hfz99_0 := blk_frozen BK145.out 0
                have hfz99_1 := blk_frozen BK145.out 1
                have hfz99_2 := blk_frozen BK145.out 2
                have hfz99_3 := blk_frozen BK145.out 3
                have hfz99_4 := blk_frozen BK145.out 4
                have hfz99_5 := blk_frozen BK145.out 5
                have hfz99_6 := blk_frozen BK145.out 6
                have hfz99_7 := blk_frozen BK145.out 7
                have hfz99_8 := blk_frozen BK145.out 8
                have hfz99_9 := blk_frozen BK145.out 9
                have hfz99_10 := blk_frozen BK145.out 10
                have hfz99_11 := blk_frozen BK145.out 11
                have hfz99_12 := blk_frozen BK145.out 12
                have hnb100 := NB146_147.out
                have hnc100 := NB147_146.out
                have hnb101 := NB146_148.out
                have hnc101 := NB148_146.out
                have hnb102 := NB146_149.out
                have hnc102 := NB149_146.out
                have hcz103_0 : wc.cell? ⟨gb146, 0, none⟩ = some (.int .i64 a2_0) := (blk_cell BK146.out 0).trans rfl
                have hcz103_1 : wc.cell? ⟨gb146, 1, none⟩ = some (.int .i64 a2_1) := (blk_cell BK146.out 1).trans rfl
                have hfz103_0 := blk_frozen BK146.out 0
                have hfz103_1 := blk_frozen BK146.out 1
                have hnb104 := NB147_148.out
                have hnc104 := NB148_147.out
                have hnb105 := NB147_149.out
                have hnc105 := NB149_147.out
                have hcz106_0 : wc.cell? ⟨gb147, 0, none⟩ = some (.int .i64 a3_0) := (blk_cell BK147.out 0).trans rfl
                have hcz106_1 : wc.cell? ⟨gb147, 1, none⟩ = some (.int .i64 a3_1) := (blk_cell BK147.out 1).trans rfl
                have hcz106_2 : wc.cell? ⟨gb147, 2, none⟩ = some (.int .i64 a3_2) := (blk_cell BK147.out 2).trans rfl
                have hcz106_3 : wc.cell? ⟨gb147, 3, none⟩ = some (.int .i64 a3_3) := (blk_cell BK147.out 3).trans rfl
                have hcz106_4 : wc.cell? ⟨gb147, 4, none⟩ = some (.int .i64 a3_4) := (blk_cell BK147.out 4).trans rfl
                have hcz106_5 : wc.cell? ⟨gb147, 5, none⟩ = some (.string a3_5) := (blk_cell BK147.out 5).trans rfl
                have hfz106_0 := blk_frozen BK147.out 0
                have hfz106_1 := blk_frozen BK147.out 1
                have hfz106_2 := blk_frozen BK147.out 2
                have hfz106_3 := blk_frozen BK147.out 3
                have hfz106_4 := blk_frozen BK147.out 4
                have hfz106_5 := blk_frozen BK147.out 5
                have hnb107 := NB148_149.out
                have hnc107 := NB149_148.out
                have hcz108_0 : wc.cell? ⟨gb148, 0, none⟩ = some (.int .i64 a4_0) := (blk_cell BK148.out 0).trans rfl
                have hcz108_1 : wc.cell? ⟨gb148, 1, none⟩ = some (.slice A4_1 l4_1.length c4_1) := (blk_cell BK148.out 1).trans rfl
                have hfz108_0 := blk_frozen BK148.out 0
                have hfz108_1 := blk_frozen BK148.out 1
                go_wp2_with (first | ((with_reducible refine gate_callee (f := 39) rfl ?_); refine goesL_ (some 52) rfl rfl Try.func39 (by kernel_rfl) rfl #[.agg #[.int .i64 a1, .int .i64 a2_0, .int .i64 a2_1, .int .i64 a2_0, .int .i64 a2_1, .int .i64 a3_0, .int .i64 a3_1, .int .i64 a3_2, .int .i64 a3_3, .int .i64 a3_4, .string a3_5, .int .i64 a4_0, .slice A4_1 l4_1.length c4_1]] rfl (by (try simp only [List.map_toArray, List.map_cons, List.map_nil]); first | done | rfl | (simp only [List.length_drop, List.length_take]; rfl)) ?_; (with_reducible refine (instance_own.calls a1 a2_0 a2_1 a2_0 a2_1 a3_0 a3_1 a3_2 a3_3 a3_4 a3_5 a4_0 _ _ l4_1 t166 t167 t168 t169 t170 t171 t172 t173 t174 t175 t176 t177 t178 _ ?side1 ?side2 A94.out).mono ?_); (case side1 => repeat (first | exact (Kd.C_below HR4_1.out HB.out) | (with_reducible refine Kd.C_alloc ?_ _) | (with_reducible refine Kd.C_drewN ?_ _) | (with_reducible refine Kd.C_drew ?_))); (case side2 => exact HC4_1.out); rintro e w109 ⟨v179, rfl, ho0, hb⟩; refine ⟨_, rfl, ?_⟩; have n0_ := Aside0.mk (Kd.R_elder' (by (with_reducible repeat (first | apply Kd.R_alloc | apply Kd.R_drewN | apply Kd.R_drew)); exact HO_146012.out) (Kd.R_base ho0) hb); have n1_ := Aside0.mk (Kd.R_lower (Kd.R_new' ho0 (Kd.R_lt (by (with_reducible repeat (first | apply Kd.R_alloc | apply Kd.R_drewN | apply Kd.R_drew)); exact HO_146012.out))) (below_size (by repeat (first | (with_reducible first | exact HB.out | apply below_alloc | apply pw_below_drewN | apply below_drew1 | refine below_set ?_ GE145.out | refine below_set ?_ GE146.out | refine below_set ?_ GE147.out | refine below_set ?_ GE148.out | refine below_set ?_ GE149.out) | exact HB.out)))); have n2_ := Aside0.mk (blk_below (g := gb145) (by (with_reducible repeat (first | refine blk_drewN ?_ _ | refine blk_drew ?_ | refine blk_alloc ?_ _)); exact BK145.out) hb); have n3_ := Aside0.mk (blk_below (g := gb146) (by (with_reducible repeat (first | refine blk_drewN ?_ _ | refine blk_drew ?_ | refine blk_alloc ?_ _)); exact BK146.out) hb); have n4_ := Aside0.mk (blk_below (g := gb147) (by (with_reducible repeat (first | refine blk_drewN ?_ _ | refine blk_drew ?_ | refine blk_alloc ?_ _)); exact BK147.out) hb); have n5_ := Aside0.mk (blk_below (g := gb148) (by (with_reducible repeat (first | refine blk_drewN ?_ _ | refine blk_drew ?_ | refine blk_alloc ?_ _)); exact BK148.out) hb); have n6_ := Aside0.mk (blk_below (g := gb149) (by (with_reducible repeat (first | refine blk_drewN ?_ _ | refine blk_drew ?_ | refine blk_alloc ?_ _)); exact BK149.out) hb); have n7_ := Aside0.mk (below_step (by repeat (first | (with_reducible first | exact HB.out | apply below_alloc | apply pw_below_drewN | apply below_drew1 | refine below_set ?_ GE145.out | refine below_set ?_ GE146.out | refine below_set ?_ GE147.out | refine below_set ?_ GE148.out | refine below_set ?_ GE149.out) | exact HB.out)) hb); clear HO_146012; clear BK145; clear BK146; clear BK147; clear BK148; clear BK149; clear HB; have HO_146012 := n0_; have HO180 := n1_; have BK145 := n2_; have BK146 := n3_; have BK147 := n4_; have BK148 := n5_; have BK149 := n6_; have HB := n7_; clear n0_ n1_ n2_ n3_ n4_ n5_ n6_ n7_; (try clear hb); (try clear hb2); (try clear hk); (try clear hi); (try clear ho0); have hcz110_0 : w109.cell? ⟨gb149, 0, none⟩ = some (.int .i64 0) := (blk_cell BK149.out 0).trans rfl; have hcz110_1 : w109.cell? ⟨gb149, 1, none⟩ = some (.int .i64 0) := (blk_cell BK149.out 1).trans rfl; have hcz110_2 : w109.cell? ⟨gb149, 2, none⟩ = some (.int .i64 0) := (blk_cell BK149.out 2).trans rfl; have hcz110_3 : w109.cell? ⟨gb149, 3, none⟩ = some (.int .i64 0) := (blk_cell BK149.out 3).trans rfl; have hcz110_4 : w109.cell? ⟨gb149, 4, none⟩ = some (.int .i64 0) := (blk_cell BK149.out 4).trans rfl; have hcz110_5 : w109.cell? ⟨gb149, 5, none⟩ = some (.int .i64 0) := (blk_cell BK149.out 5).trans rfl; have hcz110_6 : w109.cell? ⟨gb149, 6, none⟩ = some (.int .i64 0) := (blk_cell BK149.out 6).trans rfl; have hcz110_7 : w109.cell? ⟨gb149, 7, none⟩ = some (.int .i64 0) := (blk_cell BK149.out 7).trans rfl; have hcz110_8 : w109.cell? ⟨gb149, 8, none⟩ = some (.int .i64 0) := (blk_cell BK149.out 8).trans rfl; have hcz110_9 : w109.cell? ⟨gb149, 9, none⟩ = some (.int .i64 0) := (blk_cell BK149.out 9).trans rfl; have hcz110_10 : w109.cell? ⟨gb149, 10, none⟩ = some (.string (⟨#[]⟩ : ByteArray)) := (blk_cell BK149.out 10).trans rfl; have hcz110_11 : w109.cell? ⟨gb149, 11, none⟩ = some (.int .i64 0) := (blk_cell BK149.out 11).trans rfl; have hcz110_12 : w109.cell? ⟨gb149, 12, none⟩ = some (.slice none 0 0) := (blk_cell BK149.out 12).trans rfl; have hfz110_0 := blk_frozen BK149.out 0; have hfz110_1 := blk_frozen BK149.out 1; have hfz110_2 := blk_frozen BK149.out 2; have hfz110_3 := blk_frozen BK149.out 3; have hfz110_4 := blk_frozen BK149.out 4; have hfz110_5 := blk_frozen BK149.out 5; have hfz110_6 := blk_frozen BK149.out 6; have hfz110_7 := blk_frozen BK149.out 7; have hfz110_8 := blk_frozen BK149.out 8; have hfz110_9 := blk_frozen BK149.out 9; have hfz110_10 := blk_frozen BK149.out 10; have hfz110_11 := blk_frozen BK149.out 11; have hfz110_12 := blk_frozen BK149.out 12; obtain ⟨Ao111, co111, eo111⟩ := Kd.R_slice HO180.out; subst eo111))
                refine bodyPost_ret (results_ct rfl _ _ gb149 32 #[.int .i64 t166, .int .i64 t167, .int .i64 t168, .int .i64 t169, .int .i64 t170, .int .i64 t171, .int .i64 t172, .int .i64 t173, .int .i64 t174, .int .i64 t175, .string t176, .int .i64 t177, .slice Ao111 t178.length co111] (0, 0) _ rfl (by (with_reducible repeat (first | refine blk_drewN ?_ _ | refine blk_drew ?_ | refine blk_alloc ?_ _)); refine blk_put13 (cs := #[.int .i64 0, .int .i64 0, .int .i64 0, .int .i64 0, .int .i64 0, .int .i64 0, .int .i64 0, .int .i64 0, .int .i64 0, .int .i64 0, .string (⟨#[]⟩ : ByteArray), .int .i64 0, .slice none 0 0]) ?_ rfl; (with_reducible repeat (first | refine blk_drewN ?_ _ | refine blk_drew ?_ | refine blk_alloc ?_ _)); exact BK149.out) Try.underlying32 rfl (by kernel_rfl)) rfl ?_
                exact ⟨_, by first | rfl | (simp [errW_none, errW_some] <;> rfl) | (simp [*, errW_none, errW_some] <;> rfl), by (with_reducible repeat (first | apply Kd.R_alloc | apply Kd.R_drewN | apply Kd.R_drew)); exact Kd.R_mono (Kd.R_far13 (g := gb149) (Kd.R_types HO180.out BK149.out (by decide)) (fun _ hk => hk.2)) (fun _ hk => trivial), by repeat (first | (with_reducible first | exact HB.out | apply below_alloc | apply pw_below_drewN | apply below_drew1 | refine below_set ?_ GE145.out | refine below_set ?_ GE146.out | refine below_set ?_ GE147.out | refine below_set ?_ GE148.out | refine below_set ?_ GE149.out) | exact HB.out)⟩
            · rw [if_neg c80] at H
              have c80b0 : (t150 == 2) = false := beq_eq_false_iff_ne.mpr c80
              have c80b1 : (t150 != 2) = true := bne_iff_ne.mpr c80
              replace H := Option.bind_eq_some_iff.mp H
              obtain ⟨⟨t181, t182, t183, t184, t185, t186, t187, t188, t189, t190, t191, t192, t193⟩, A1120, H⟩ := H
              replace H : (some (t181, t182, t183, t184, t185, t186, t187, t188, t189, t190, t191, t192, t193, true)) = some (r1, r2, r3, r4, r5, r6, r7, r8, r9, r10, r11, r12, r13, r14) := H
              have A112 := Aside0.mk A1120
              clear A1120
              simp only [Option.some.injEq, Prod.mk.injEq] at H
              obtain ⟨rfl, rfl, rfl, rfl, rfl, rfl, rfl, rfl, rfl, rfl, rfl, rfl, rfl, rfl⟩ := H
              have hnb113 := NB145_146.out
              have hnc113 := NB146_145.out
              have hnb114 := NB145_147.out
              have hnc114 := NB147_145.out
              have hnb115 := NB145_148.out
              have hnc115 := NB148_145.out
              have hnb116 := NB145_149.out
              have hnc116 := NB149_145.out
              have hcz117_0 : wc.cell? ⟨gb145, 0, none⟩ = some (.int .i64 t150) := (blk_cell BK145.out 0).trans rfl
              have hcz117_1 : wc.cell? ⟨gb145, 1, none⟩ = some (.int .i64 t151) := (blk_cell BK145.out 1).trans rfl
              have hcz117_2 : wc.cell? ⟨gb145, 2, none⟩ = some (.int .i64 t152) := (blk_cell BK145.out 2).trans rfl
              have hcz117_3 : wc.cell? ⟨gb145, 3, none⟩ = some (.int .i64 t153) := (blk_cell BK145.out 3).trans rfl
              have hcz117_4 : wc.cell? ⟨gb145, 4, none⟩ = some (.int .i64 t154) := (blk_cell BK145.out 4).trans rfl
              have hcz117_5 : wc.cell? ⟨gb145, 5, none⟩ = some (.int .i64 t155) := (blk_cell BK145.out 5).trans rfl
              have hcz117_6 : wc.cell? ⟨gb145, 6, none⟩ = some (.int .i64 t156) := (blk_cell BK145.out 6).trans rfl
              have hcz117_7 : wc.cell? ⟨gb145, 7, none⟩ = some (.int .i64 t157) := (blk_cell BK145.out 7).trans rfl
              have hcz117_8 : wc.cell? ⟨gb145, 8, none⟩ = some (.int .i64 t158) := (blk_cell BK145.out 8).trans rfl
              have hcz117_9 : wc.cell? ⟨gb145, 9, none⟩ = some (.int .i64 t159) := (blk_cell BK145.out 9).trans rfl
              have hcz117_10 : wc.cell? ⟨gb145, 10, none⟩ = some (.string t160) := (blk_cell BK145.out 10).trans rfl
              have hcz117_11 : wc.cell? ⟨gb145, 11, none⟩ = some (.int .i64 t161) := (blk_cell BK145.out 11).trans rfl
              have hcz117_12 : wc.cell? ⟨gb145, 12, none⟩ = some (.slice Ao44 t162.length co44) := (blk_cell BK145.out 12).trans rfl
              have hfz117_0 := blk_frozen BK145.out 0
              have hfz117_1 := blk_frozen BK145.out 1
              have hfz117_2 := blk_frozen BK145.out 2
              have hfz117_3 := blk_frozen BK145.out 3
              have hfz117_4 := blk_frozen BK145.out 4
              have hfz117_5 := blk_frozen BK145.out 5
              have hfz117_6 := blk_frozen BK145.out 6
              have hfz117_7 := blk_frozen BK145.out 7
              have hfz117_8 := blk_frozen BK145.out 8
              have hfz117_9 := blk_frozen BK145.out 9
              have hfz117_10 := blk_frozen BK145.out 10
              have hfz117_11 := blk_frozen BK145.out 11
              have hfz117_12 := blk_frozen BK145.out 12
              have hnb118 := NB146_147.out
              have hnc118 := NB147_146.out
              have hnb119 := NB146_148.out
              have hnc119 := NB148_146.out
              have hnb120 := NB146_149.out
              have hnc120 := NB149_146.out
              have hcz121_0 : wc.cell? ⟨gb146, 0, none⟩ = some (.int .i64 a2_0) := (blk_cell BK146.out 0).trans rfl
              have hcz121_1 : wc.cell? ⟨gb146, 1, none⟩ = some (.int .i64 a2_1) := (blk_cell BK146.out 1).trans rfl
              have hfz121_0 := blk_frozen BK146.out 0
              have hfz121_1 := blk_frozen BK146.out 1
              have hnb122 := NB147_148.out
              have hnc122 := NB148_147.out
              have hnb123 := NB147_149.out
              have hnc123 := NB149_147.out
              have hcz124_0 : wc.cell? ⟨gb147, 0, none⟩ = some (.int .i64 a3_0) := (blk_cell BK147.out 0).trans rfl
              have hcz124_1 : wc.cell? ⟨gb147, 1, none⟩ = some (.int .i64 a3_1) := (blk_cell BK147.out 1).trans rfl
              have hcz124_2 : wc.cell? ⟨gb147, 2, none⟩ = some (.int .i64 a3_2) := (blk_cell BK147.out 2).trans rfl
              have hcz124_3 : wc.cell? ⟨gb147, 3, none⟩ = some (.int .i64 a3_3) := (blk_cell BK147.out 3).trans rfl
              have hcz124_4 : wc.cell? ⟨gb147, 4, none⟩ = some (.int .i64 a3_4) := (blk_cell BK147.out 4).trans rfl
              have hcz124_5 : wc.cell? ⟨gb147, 5, none⟩ = some (.string a3_5) := (blk_cell BK147.out 5).trans rfl
              have hfz124_0 := blk_frozen BK147.out 0
              have hfz124_1 := blk_frozen BK147.out 1
              have hfz124_2 := blk_frozen BK147.out 2
              have hfz124_3 := blk_frozen BK147.out 3
              have hfz124_4 := blk_frozen BK147.out 4
              have hfz124_5 := blk_frozen BK147.out 5
              have hnb125 := NB148_149.out
              have hnc125 := NB149_148.out
              have hcz126_0 : wc.cell? ⟨gb148, 0, none⟩ = some (.int .i64 a4_0) := (blk_cell BK148.out 0).trans rfl
              have hcz126_1 : wc.cell? ⟨gb148, 1, none⟩ = some (.slice A4_1 l4_1.length c4_1) := (blk_cell BK148.out 1).trans rfl
              have hfz126_0 := blk_frozen BK148.out 0
              have hfz126_1 := blk_frozen BK148.out 1
              go_wp2_with (first | ((with_reducible refine gate_callee (f := 39) rfl ?_); refine goesL_ (some 52) rfl rfl Try.func39 (by kernel_rfl) rfl #[.agg #[.int .i64 a1, .int .i64 a2_0, .int .i64 a2_1, .int .i64 a2_0, .int .i64 a2_1, .int .i64 a3_0, .int .i64 a3_1, .int .i64 a3_2, .int .i64 a3_3, .int .i64 a3_4, .string a3_5, .int .i64 a4_0, .slice A4_1 l4_1.length c4_1]] rfl (by (try simp only [List.map_toArray, List.map_cons, List.map_nil]); first | done | rfl | (simp only [List.length_drop, List.length_take]; rfl)) ?_; (with_reducible refine (instance_own.calls a1 a2_0 a2_1 a2_0 a2_1 a3_0 a3_1 a3_2 a3_3 a3_4 a3_5 a4_0 _ _ l4_1 t181 t182 t183 t184 t185 t186 t187 t188 t189 t190 t191 t192 t193 _ ?side1 ?side2 A112.out).mono ?_); (case side1 => repeat (first | exact (Kd.C_below HR4_1.out HB.out) | (with_reducible refine Kd.C_alloc ?_ _) | (with_reducible refine Kd.C_drewN ?_ _) | (with_reducible refine Kd.C_drew ?_))); (case side2 => exact HC4_1.out); rintro e w127 ⟨v194, rfl, ho0, hb⟩; refine ⟨_, rfl, ?_⟩; have n0_ := Aside0.mk (Kd.R_elder' (by (with_reducible repeat (first | apply Kd.R_alloc | apply Kd.R_drewN | apply Kd.R_drew)); exact HO_146012.out) (Kd.R_base ho0) hb); have n1_ := Aside0.mk (Kd.R_lower (Kd.R_new' ho0 (Kd.R_lt (by (with_reducible repeat (first | apply Kd.R_alloc | apply Kd.R_drewN | apply Kd.R_drew)); exact HO_146012.out))) (below_size (by repeat (first | (with_reducible first | exact HB.out | apply below_alloc | apply pw_below_drewN | apply below_drew1 | refine below_set ?_ GE145.out | refine below_set ?_ GE146.out | refine below_set ?_ GE147.out | refine below_set ?_ GE148.out | refine below_set ?_ GE149.out) | exact HB.out)))); have n2_ := Aside0.mk (blk_below (g := gb145) (by (with_reducible repeat (first | refine blk_drewN ?_ _ | refine blk_drew ?_ | refine blk_alloc ?_ _)); exact BK145.out) hb); have n3_ := Aside0.mk (blk_below (g := gb146) (by (with_reducible repeat (first | refine blk_drewN ?_ _ | refine blk_drew ?_ | refine blk_alloc ?_ _)); exact BK146.out) hb); have n4_ := Aside0.mk (blk_below (g := gb147) (by (with_reducible repeat (first | refine blk_drewN ?_ _ | refine blk_drew ?_ | refine blk_alloc ?_ _)); exact BK147.out) hb); have n5_ := Aside0.mk (blk_below (g := gb148) (by (with_reducible repeat (first | refine blk_drewN ?_ _ | refine blk_drew ?_ | refine blk_alloc ?_ _)); exact BK148.out) hb); have n6_ := Aside0.mk (blk_below (g := gb149) (by (with_reducible repeat (first | refine blk_drewN ?_ _ | refine blk_drew ?_ | refine blk_alloc ?_ _)); exact BK149.out) hb); have n7_ := Aside0.mk (below_step (by repeat (first | (with_reducible first | exact HB.out | apply below_alloc | apply pw_below_drewN | apply below_drew1 | refine below_set ?_ GE145.out | refine below_set ?_ GE146.out | refine below_set ?_ GE147.out | refine below_set ?_ GE148.out | refine below_set ?_ GE149.out) | exact HB.out)) hb); clear HO_146012; clear BK145; clear BK146; clear BK147; clear BK148; clear BK149; clear HB; have HO_146012 := n0_; have HO195 := n1_; have BK145 := n2_; have BK146 := n3_; have BK147 := n4_; have BK148 := n5_; have BK149 := n6_; have HB := n7_; clear n0_ n1_ n2_ n3_ n4_ n5_ n6_ n7_; (try clear hb); (try clear hb2); (try clear hk); (try clear hi); (try clear ho0); have hcz128_0 : w127.cell? ⟨gb149, 0, none⟩ = some (.int .i64 0) := (blk_cell BK149.out 0).trans rfl; have hcz128_1 : w127.cell? ⟨gb149, 1, none⟩ = some (.int .i64 0) := (blk_cell BK149.out 1).trans rfl; have hcz128_2 : w127.cell? ⟨gb149, 2, none⟩ = some (.int .i64 0) := (blk_cell BK149.out 2).trans rfl; have hcz128_3 : w127.cell? ⟨gb149, 3, none⟩ = some (.int .i64 0) := (blk_cell BK149.out 3).trans rfl; have hcz128_4 : w127.cell? ⟨gb149, 4, none⟩ = some (.int .i64 0) := (blk_cell BK149.out 4).trans rfl; have hcz128_5 : w127.cell? ⟨gb149, 5, none⟩ = some (.int .i64 0) := (blk_cell BK149.out 5).trans rfl; have hcz128_6 : w127.cell? ⟨gb149, 6, none⟩ = some (.int .i64 0) := (blk_cell BK149.out 6).trans rfl; have hcz128_7 : w127.cell? ⟨gb149, 7, none⟩ = some (.int .i64 0) := (blk_cell BK149.out 7).trans rfl; have hcz128_8 : w127.cell? ⟨gb149, 8, none⟩ = some (.int .i64 0) := (blk_cell BK149.out 8).trans rfl; have hcz128_9 : w127.cell? ⟨gb149, 9, none⟩ = some (.int .i64 0) := (blk_cell BK149.out 9).trans rfl; have hcz128_10 : w127.cell? ⟨gb149, 10, none⟩ = some (.string (⟨#[]⟩ : ByteArray)) := (blk_cell BK149.out 10).trans rfl; have hcz128_11 : w127.cell? ⟨gb149, 11, none⟩ = some (.int .i64 0) := (blk_cell BK149.out 11).trans rfl; have hcz128_12 : w127.cell? ⟨gb149, 12, none⟩ = some (.slice none 0 0) := (blk_cell BK149.out 12).trans rfl; have hfz128_0 := blk_frozen BK149.out 0; have hfz128_1 := blk_frozen BK149.out 1; have hfz128_2 := blk_frozen BK149.out 2; have hfz128_3 := blk_frozen BK149.out 3; have hfz128_4 := blk_frozen BK149.out 4; have hfz128_5 := blk_frozen BK149.out 5; have hfz128_6 := blk_frozen BK149.out 6; have hfz128_7 := blk_frozen BK149.out 7; have hfz128_8 := blk_frozen BK149.out 8; have hfz128_9 := blk_frozen BK149.out 9; have hfz128_10 := blk_frozen BK149.out 10; have hfz128_11 := blk_frozen BK149.out 11; have hfz128_12 := blk_frozen BK149.out 12; obtain ⟨Ao129, co129, eo129⟩ := Kd.R_slice HO195.out; subst eo129))
              refine bodyPost_ret (results_ct rfl _ _ gb149 32 #[.int .i64 t181, .int .i64 t182, .int .i64 t183, .int .i64 t184, .int .i64 t185, .int .i64 t186, .int .i64 t187, .int .i64 t188, .int .i64 t189, .int .i64 t190, .string t191, .int .i64 t192, .slice Ao129 t193.length co129] (0, 0) _ rfl (by (with_reducible repeat (first | refine blk_drewN ?_ _ | refine blk_drew ?_ | refine blk_alloc ?_ _)); refine blk_put13 (cs := #[.int .i64 0, .int .i64 0, .int .i64 0, .int .i64 0, .int .i64 0, .int .i64 0, .int .i64 0, .int .i64 0, .int .i64 0, .int .i64 0, .string (⟨#[]⟩ : ByteArray), .int .i64 0, .slice none 0 0]) ?_ rfl; (with_reducible repeat (first | refine blk_drewN ?_ _ | refine blk_drew ?_ | refine blk_alloc ?_ _)); exact BK149.out) Try.underlying32 rfl (by kernel_rfl)) rfl ?_
              exact ⟨_, by first | rfl | (simp [errW_none, errW_some] <;> rfl) | (simp [*, errW_none, errW_some] <;> rfl), by (with_reducible repeat (first | apply Kd.R_alloc | apply Kd.R_drewN | apply Kd.R_drew)); exact Kd.R_mono (Kd.R_far13 (g := gb149) (Kd.R_types HO195.out BK149.out (by decide)) (fun _ hk => hk.2)) (fun _ hk => trivial), by repeat (first | (with_reducible first | exact HB.out | apply below_alloc | apply pw_below_drewN | apply below_drew1 | refine below_set ?_ GE145.out | refine below_set ?_ GE146.out | refine below_set ?_ GE147.out | refine below_set ?_ GE148.out | refine below_set ?_ GE149.out) | exact HB.out)⟩
          · rw [if_neg c79] at H
            have c79b0 : (t153 == a2_0 && (t154 == a2_1)) = false := by simpa using c79
            (try (have c79b1 : decide (t153 = a2_0 && (t154 == a2_1)) = false := by simpa using c79))
            (try (have c79b2 : (t153 == a2_0 && (t154 == a2_1)) = false := by simpa using c79))
            (try (have c79b3 : ¬ (t153 = a2_0 && (t154 == a2_1)) := by simpa using c79))
            clear c79
            replace H := Option.bind_eq_some_iff.mp H
            obtain ⟨⟨t196, t197, t198, t199, t200, t201, t202, t203, t204, t205, t206, t207, t208⟩, A1300, H⟩ := H
            replace H : (some (t196, t197, t198, t199, t200, t201, t202, t203, t204, t205, t206, t207, t208, true)) = some (r1, r2, r3, r4, r5, r6, r7, r8, r9, r10, r11, r12, r13, r14) := H
            have A130 := Aside0.mk A1300
            clear A1300
            simp only [Option.some.injEq, Prod.mk.injEq] at H
            obtain ⟨rfl, rfl, rfl, rfl, rfl, rfl, rfl, rfl, rfl, rfl, rfl, rfl, rfl, rfl⟩ := H
            have hnb131 := NB145_146.out
            have hnc131 := NB146_145.out
            have hnb132 := NB145_147.out
            have hnc132 := NB147_145.out
            have hnb133 := NB145_148.out
            have hnc133 := NB148_145.out
            have hnb134 := NB145_149.out
            have hnc134 := NB149_145.out
            have hcz135_0 : wc.cell? ⟨gb145, 0, none⟩ = some (.int .i64 t150) := (blk_cell BK145.out 0).trans rfl
            have hcz135_1 : wc.cell? ⟨gb145, 1, none⟩ = some (.int .i64 t151) := (blk_cell BK145.out 1).trans rfl
            have hcz135_2 : wc.cell? ⟨gb145, 2, none⟩ = some (.int .i64 t152) := (blk_cell BK145.out 2).trans rfl
            have hcz135_3 : wc.cell? ⟨gb145, 3, none⟩ = some (.int .i64 t153) := (blk_cell BK145.out 3).trans rfl
            have hcz135_4 : wc.cell? ⟨gb145, 4, none⟩ = some (.int .i64 t154) := (blk_cell BK145.out 4).trans rfl
            have hcz135_5 : wc.cell? ⟨gb145, 5, none⟩ = some (.int .i64 t155) := (blk_cell BK145.out 5).trans rfl
            have hcz135_6 : wc.cell? ⟨gb145, 6, none⟩ = some (.int .i64 t156) := (blk_cell BK145.out 6).trans rfl
            have hcz135_7 : wc.cell? ⟨gb145, 7, none⟩ = some (.int .i64 t157) := (blk_cell BK145.out 7).trans rfl
            have hcz135_8 : wc.cell? ⟨gb145, 8, none⟩ = some (.int .i64 t158) := (blk_cell BK145.out 8).trans rfl
            have hcz135_9 : wc.cell? ⟨gb145, 9, none⟩ = some (.int .i64 t159) := (blk_cell BK145.out 9).trans rfl
            have hcz135_10 : wc.cell? ⟨gb145, 10, none⟩ = some (.string t160) := (blk_cell BK145.out 10).trans rfl
            have hcz135_11 : wc.cell? ⟨gb145, 11, none⟩ = some (.int .i64 t161) := (blk_cell BK145.out 11).trans rfl
            have hcz135_12 : wc.cell? ⟨gb145, 12, none⟩ = some (.slice Ao44 t162.length co44) := (blk_cell BK145.out 12).trans rfl
            have hfz135_0 := blk_frozen BK145.out 0
            have hfz135_1 := blk_frozen BK145.out 1
            have hfz135_2 := blk_frozen BK145.out 2
            have hfz135_3 := blk_frozen BK145.out 3
            have hfz135_4 := blk_frozen BK145.out 4
            have hfz135_5 := blk_frozen BK145.out 5
            have hfz135_6 := blk_frozen BK145.out 6
            have hfz135_7 := blk_frozen BK145.out 7
            have hfz135_8 := blk_frozen BK145.out 8
            have hfz135_9 := blk_frozen BK145.out 9
            have hfz135_10 := blk_frozen BK145.out 10
            have hfz135_11 := blk_frozen BK145.out 11
            have hfz135_12 := blk_frozen BK145.out 12
            have hnb136 := NB146_147.out
            have hnc136 := NB147_146.out
            have hnb137 := NB146_148.out
            have hnc137 := NB148_146.out
            have hnb138 := NB146_149.out
            have hnc138 := NB149_146.out
            have hcz139_0 : wc.cell? ⟨gb146, 0, none⟩ = some (.int .i64 a2_0) := (blk_cell BK146.out 0).trans rfl
            have hcz139_1 : wc.cell? ⟨gb146, 1, none⟩ = some (.int .i64 a2_1) := (blk_cell BK146.out 1).trans rfl
            have hfz139_0 := blk_frozen BK146.out 0
            have hfz139_1 := blk_frozen BK146.out 1
            have hnb140 := NB147_148.out
            have hnc140 := NB148_147.out
            have hnb141 := NB147_149.out
            have hnc141 := NB149_147.out
            have hcz142_0 : wc.cell? ⟨gb147, 0, none⟩ = some (.int .i64 a3_0) := (blk_cell BK147.out 0).trans rfl
            have hcz142_1 : wc.cell? ⟨gb147, 1, none⟩ = some (.int .i64 a3_1) := (blk_cell BK147.out 1).trans rfl
            have hcz142_2 : wc.cell? ⟨gb147, 2, none⟩ = some (.int .i64 a3_2) := (blk_cell BK147.out 2).trans rfl
            have hcz142_3 : wc.cell? ⟨gb147, 3, none⟩ = some (.int .i64 a3_3) := (blk_cell BK147.out 3).trans rfl
            have hcz142_4 : wc.cell? ⟨gb147, 4, none⟩ = some (.int .i64 a3_4) := (blk_cell BK147.out 4).trans rfl
            have hcz142_5 : wc.cell? ⟨gb147, 5, none⟩ = some (.string a3_5) := (blk_cell BK147.out 5).trans rfl
            have hfz142_0 := blk_frozen BK147.out 0
            have hfz142_1 := blk_frozen BK147.out 1
            have hfz142_2 := blk_frozen BK147.out 2
            have hfz142_3 := blk_frozen BK147.out 3
            have hfz142_4 := blk_frozen BK147.out 4
            have hfz142_5 := blk_frozen BK147.out 5
            have hnb143 := NB148_149.out
            have hnc143 := NB149_148.out
            have hcz144_0 : wc.cell? ⟨gb148, 0, none⟩ = some (.int .i64 a4_0) := (blk_cell BK148.out 0).trans rfl
            have hcz144_1 : wc.cell? ⟨gb148, 1, none⟩ = some (.slice A4_1 l4_1.length c4_1) := (blk_cell BK148.out 1).trans rfl
            have hfz144_0 := blk_frozen BK148.out 0
            have hfz144_1 := blk_frozen BK148.out 1
            go_wp2_with (first | ((with_reducible refine gate_callee (f := 39) rfl ?_); refine goesL_ (some 52) rfl rfl Try.func39 (by kernel_rfl) rfl #[.agg #[.int .i64 a1, .int .i64 a2_0, .int .i64 a2_1, .int .i64 a2_0, .int .i64 a2_1, .int .i64 a3_0, .int .i64 a3_1, .int .i64 a3_2, .int .i64 a3_3, .int .i64 a3_4, .string a3_5, .int .i64 a4_0, .slice A4_1 l4_1.length c4_1]] rfl (by (try simp only [List.map_toArray, List.map_cons, List.map_nil]); first | done | rfl | (simp only [List.length_drop, List.length_take]; rfl)) ?_; (with_reducible refine (instance_own.calls a1 a2_0 a2_1 a2_0 a2_1 a3_0 a3_1 a3_2 a3_3 a3_4 a3_5 a4_0 _ _ l4_1 t196 t197 t198 t199 t200 t201 t202 t203 t204 t205 t206 t207 t208 _ ?side1 ?side2 A130.out).mono ?_); (case side1 => repeat (first | exact (Kd.C_below HR4_1.out HB.out) | (with_reducible refine Kd.C_alloc ?_ _) | (with_reducible refine Kd.C_drewN ?_ _) | (with_reducible refine Kd.C_drew ?_))); (case side2 => exact HC4_1.out); rintro e w145 ⟨v209, rfl, ho0, hb⟩; refine ⟨_, rfl, ?_⟩; have n0_ := Aside0.mk (Kd.R_elder' (by (with_reducible repeat (first | apply Kd.R_alloc | apply Kd.R_drewN | apply Kd.R_drew)); exact HO_146012.out) (Kd.R_base ho0) hb); have n1_ := Aside0.mk (Kd.R_lower (Kd.R_new' ho0 (Kd.R_lt (by (with_reducible repeat (first | apply Kd.R_alloc | apply Kd.R_drewN | apply Kd.R_drew)); exact HO_146012.out))) (below_size (by repeat (first | (with_reducible first | exact HB.out | apply below_alloc | apply pw_below_drewN | apply below_drew1 | refine below_set ?_ GE145.out | refine below_set ?_ GE146.out | refine below_set ?_ GE147.out | refine below_set ?_ GE148.out | refine below_set ?_ GE149.out) | exact HB.out)))); have n2_ := Aside0.mk (blk_below (g := gb145) (by (with_reducible repeat (first | refine blk_drewN ?_ _ | refine blk_drew ?_ | refine blk_alloc ?_ _)); exact BK145.out) hb); have n3_ := Aside0.mk (blk_below (g := gb146) (by (with_reducible repeat (first | refine blk_drewN ?_ _ | refine blk_drew ?_ | refine blk_alloc ?_ _)); exact BK146.out) hb); have n4_ := Aside0.mk (blk_below (g := gb147) (by (with_reducible repeat (first | refine blk_drewN ?_ _ | refine blk_drew ?_ | refine blk_alloc ?_ _)); exact BK147.out) hb); have n5_ := Aside0.mk (blk_below (g := gb148) (by (with_reducible repeat (first | refine blk_drewN ?_ _ | refine blk_drew ?_ | refine blk_alloc ?_ _)); exact BK148.out) hb); have n6_ := Aside0.mk (blk_below (g := gb149) (by (with_reducible repeat (first | refine blk_drewN ?_ _ | refine blk_drew ?_ | refine blk_alloc ?_ _)); exact BK149.out) hb); have n7_ := Aside0.mk (below_step (by repeat (first | (with_reducible first | exact HB.out | apply below_alloc | apply pw_below_drewN | apply below_drew1 | refine below_set ?_ GE145.out | refine below_set ?_ GE146.out | refine below_set ?_ GE147.out | refine below_set ?_ GE148.out | refine below_set ?_ GE149.out) | exact HB.out)) hb); clear HO_146012; clear BK145; clear BK146; clear BK147; clear BK148; clear BK149; clear HB; have HO_146012 := n0_; have HO210 := n1_; have BK145 := n2_; have BK146 := n3_; have BK147 := n4_; have BK148 := n5_; have BK149 := n6_; have HB := n7_; clear n0_ n1_ n2_ n3_ n4_ n5_ n6_ n7_; (try clear hb); (try clear hb2); (try clear hk); (try clear hi); (try clear ho0); have hcz146_0 : w145.cell? ⟨gb149, 0, none⟩ = some (.int .i64 0) := (blk_cell BK149.out 0).trans rfl; have hcz146_1 : w145.cell? ⟨gb149, 1, none⟩ = some (.int .i64 0) := (blk_cell BK149.out 1).trans rfl; have hcz146_2 : w145.cell? ⟨gb149, 2, none⟩ = some (.int .i64 0) := (blk_cell BK149.out 2).trans rfl; have hcz146_3 : w145.cell? ⟨gb149, 3, none⟩ = some (.int .i64 0) := (blk_cell BK149.out 3).trans rfl; have hcz146_4 : w145.cell? ⟨gb149, 4, none⟩ = some (.int .i64 0) := (blk_cell BK149.out 4).trans rfl; have hcz146_5 : w145.cell? ⟨gb149, 5, none⟩ = some (.int .i64 0) := (blk_cell BK149.out 5).trans rfl; have hcz146_6 : w145.cell? ⟨gb149, 6, none⟩ = some (.int .i64 0) := (blk_cell BK149.out 6).trans rfl; have hcz146_7 : w145.cell? ⟨gb149, 7, none⟩ = some (.int .i64 0) := (blk_cell BK149.out 7).trans rfl; have hcz146_8 : w145.cell? ⟨gb149, 8, none⟩ = some (.int .i64 0) := (blk_cell BK149.out 8).trans rfl; have hcz146_9 : w145.cell? ⟨gb149, 9, none⟩ = some (.int .i64 0) := (blk_cell BK149.out 9).trans rfl; have hcz146_10 : w145.cell? ⟨gb149, 10, none⟩ = some (.string (⟨#[]⟩ : ByteArray)) := (blk_cell BK149.out 10).trans rfl; have hcz146_11 : w145.cell? ⟨gb149, 11, none⟩ = some (.int .i64 0) := (blk_cell BK149.out 11).trans rfl; have hcz146_12 : w145.cell? ⟨gb149, 12, none⟩ = some (.slice none 0 0) := (blk_cell BK149.out 12).trans rfl; have hfz146_0 := blk_frozen BK149.out 0; have hfz146_1 := blk_frozen BK149.out 1; have hfz146_2 := blk_frozen BK149.out 2; have hfz146_3 := blk_frozen BK149.out 3; have hfz146_4 := blk_frozen BK149.out 4; have hfz146_5 := blk_frozen BK149.out 5; have hfz146_6 := blk_frozen BK149.out 6; have hfz146_7 := blk_frozen BK149.out 7; have hfz146_8 := blk_frozen BK149.out 8; have hfz146_9 := blk_frozen BK149.out 9; have hfz146_10 := blk_frozen BK149.out 10; have hfz146_11 := blk_frozen BK149.out 11; have hfz146_12 := blk_frozen BK149.out 12; obtain ⟨Ao147, co147, eo147⟩ := Kd.R_slice HO210.out; subst eo147))
            refine bodyPost_ret (results_ct rfl _ _ gb149 32 #[.int .i64 t196, .int .i64 t197, .int .i64 t198, .int .i64 t199, .int .i64 t200, .int .i64 t201, .int .i64 t202, .int .i64 t203, .int .i64 t204, .int .i64 t205, .string t206, .int .i64 t207, .slice Ao147 t208.length co147] (0, 0) _ rfl (by (with_reducible repeat (first | refine blk_drewN ?_ _ | refine blk_drew ?_ | refine blk_alloc ?_ _)); refine blk_put13 (cs := #[.int .i64 0, .int .i64 0, .int .i64 0, .int .i64 0, .int .i64 0, .int .i64 0, .int .i64 0, .int .i64 0, .int .i64 0, .int .i64 0, .string (⟨#[]⟩ : ByteArray), .int .i64 0, .slice none 0 0]) ?_ rfl; (with_reducible repeat (first | refine blk_drewN ?_ _ | refine blk_drew ?_ | refine blk_alloc ?_ _)); exact BK149.out) Try.underlying32 rfl (by kernel_rfl)) rfl ?_
            exact ⟨_, by first | rfl | (simp [errW_none, errW_some] <;> rfl) | (simp [*, errW_none, errW_some] <;> rfl), by (with_reducible repeat (first | apply Kd.R_alloc | apply Kd.R_drewN | apply Kd.R_drew)); exact Kd.R_mono (Kd.R_far13 (g := gb149) (Kd.R_types HO210.out BK149.out (by decide)) (fun _ hk => hk.2)) (fun _ hk => trivial), by repeat (first | (with_reducible first | exact HB.out | apply below_alloc | apply pw_below_drewN | apply below_drew1 | refine below_set ?_ GE145.out | refine below_set ?_ GE146.out | refine below_set ?_ GE147.out | refine below_set ?_ GE148.out | refine below_set ?_ GE149.out) | exact HB.out)⟩

end Go.Proofs.Ytkijkdifmoifaaa.P
