/- Plain Lean functions and their contracts over the translation, written by a program of this session (myprint.py, over the kit's print); no condition but each contract's own. -/
import Derived.Test.YtkijkdifmoifaaaPx0
import Derived.Test.YtkijkdifmoifaaaPx1
import Derived.Test.YtkijkdifmoifaaaPx2
import Derived.Test.YtkijkdifmoifaaaPx3
import Derived.Test.YtkijkdifmoifaaaPx13
namespace Go.Proofs.Ytkijkdifmoifaaa.P
open Go.RowKit Go.Proofs.YtkijkdifmoifaaaW.PrintWords Go.Proofs.YtkijkdifmoifaaaW.PrintLast Go.Proofs.YtkijkdifmoifaaaW.PrintMore
attribute [local go_sem] max2_int min2_int max_two min_two max_three min_three max_four min_four   -- for this text's walks alone
set_option linter.unusedVariables false
set_option linter.unusedSimpArgs false

attribute [local go_sem high] eqA25 eqA27
mutual
def instance_May.j0 : Nat → Int → Bool → Int → Int → Int → Int → Int → Int → Int → Int → Int → Int → ByteArray → Int → List Int → Option (Bool)
  | 0, _, _, _, _, _, _, _, _, _, _, _, _, _, _, _ => none
  | k + 1, x1, x22, x691000, x691001, x691002, x691003, x691004, x691005, x691006, x691007, x691008, x691009, x691010, x691011, x691012 => if x22 = true then (some false) else (if x691000 = 0 then (if (x691003 == 0 && (x691004 == 0)) = true then (if (x691005 == 0 && (x691006 == 0 && (x691007 == 0 && (x691008 == 0 && (x691009 == 0 && (x691010.toList == ([] : List UInt8))))))) = true then (if x691011 = 0 then (some ((x691012.length : Int) == 0)) else (some false)) else (some false)) else (some false)) else (if x691000 = 1 then (instance_May.j1 k x1 x691000 (x691000 == 1) x691000 x691001 x691002 x691003 x691004 x691005 x691006 x691007 x691008 x691009 x691010 x691011 x691012) else (instance_May.j1 k x1 x691000 (x691000 == 2) x691000 x691001 x691002 x691003 x691004 x691005 x691006 x691007 x691008 x691009 x691010 x691011 x691012)))
def instance_May.j1 : Nat → Int → Int → Bool → Int → Int → Int → Int → Int → Int → Int → Int → Int → Int → ByteArray → Int → List Int → Option (Bool)
  | 0, _, _, _, _, _, _, _, _, _, _, _, _, _, _, _, _ => none
  | k + 1, x1, x24, x27, x691000, x691001, x691002, x691003, x691004, x691005, x691006, x691007, x691008, x691009, x691010, x691011, x691012 => if x27 = true then ((instance_good.f x691003 x691004).bind fun t696 => (if t696 = true then ((command_May.f x691005 x691006 x691007 x691008 x691009 x691010).bind fun t697 => (if t697 = true then ((attr_May.f k x691011 x691012 x1).bind fun t698 => (some t698)) else (some false))) else (some false))) else (if x24 = 3 then ((command_May.f x691005 x691006 x691007 x691008 x691009 x691010).bind fun t694 => (if t694 = true then ((attr_May.f k x691011 x691012 x1).bind fun t695 => (some t695)) else (some false))) else (some false))
end
def instance_May.f (k : Nat) (a0_0 : Int) (a0_1 : Int) (a0_2 : Int) (a0_3 : Int) (a0_4 : Int) (a0_5 : Int) (a0_6 : Int) (a0_7 : Int) (a0_8 : Int) (a0_9 : Int) (a0_10 : ByteArray) (a0_11 : Int) (l0_12 : List Int) (a1 : Int) : Option (Bool) := (ballot_May.f a0_1 a0_2).bind fun t691 => (if t691 = true then ((ballot_May.f a0_3 a0_4).bind fun t692 => (if t692 = true then ((ballot_Cmp.f k a0_3 a0_4 a0_1 a0_2).bind fun t693 => (instance_May.j0 k a1 (decide (t693 > 0)) a0_0 a0_1 a0_2 a0_3 a0_4 a0_5 a0_6 a0_7 a0_8 a0_9 a0_10 a0_11 l0_12)) else (instance_May.j0 k a1 true a0_0 a0_1 a0_2 a0_3 a0_4 a0_5 a0_6 a0_7 a0_8 a0_9 a0_10 a0_11 l0_12))) else (instance_May.j0 k a1 true a0_0 a0_1 a0_2 a0_3 a0_4 a0_5 a0_6 a0_7 a0_8 a0_9 a0_10 a0_11 l0_12))
set_option maxHeartbeats 8000000 in
set_option maxRecDepth 100000 in
theorem instance_May.calls (k : Nat) (a0_0 : Int) (a0_1 : Int) (a0_2 : Int) (a0_3 : Int) (a0_4 : Int) (a0_5 : Int) (a0_6 : Int) (a0_7 : Int) (a0_8 : Int) (a0_9 : Int) (a0_10 : ByteArray) (a0_11 : Int) (A0_12 : Option Addr) (c0_12 : Nat) (l0_12 : List Int) (a1 : Int) (r : Bool) (w : World) (hr0_12 : Kd.C (Kd.int .i64) w A0_12 l0_12.length l0_12) (hc0_12 : l0_12.length ≤ c0_12) (h : instance_May.f k a0_0 a0_1 a0_2 a0_3 a0_4 a0_5 a0_6 a0_7 a0_8 a0_9 a0_10 a0_11 l0_12 a1 = some r) :
    Calls Try.prog 16 #[.agg #[.int .i64 a0_0, .int .i64 a0_1, .int .i64 a0_2, .int .i64 a0_3, .int .i64 a0_4, .int .i64 a0_5, .int .i64 a0_6, .int .i64 a0_7, .int .i64 a0_8, .int .i64 a0_9, .string a0_10, .int .i64 a0_11, .slice A0_12 l0_12.length c0_12], .int .i64 a1] w fun e w' => e = .returned (.bool r) ∧ Below w.heap.size w w' := by
  have hu32 := Try.underlying32
  have hu25 := Try.underlying25
  have hu27 := Try.underlying27
  have hu30 := Try.underlying30
  have HR0_12 := Aside0.mk hr0_12
  have HC0_12 := Aside0.mk hc0_12
  clear hr0_12 hc0_12
  have HB := Aside0.mk (Below.refl w.heap.size w)
  have H : ((ballot_May.f a0_1 a0_2).bind fun t691 => (if t691 = true then ((ballot_May.f a0_3 a0_4).bind fun t692 => (if t692 = true then ((ballot_Cmp.f k a0_3 a0_4 a0_1 a0_2).bind fun t693 => (instance_May.j0 k a1 (decide (t693 > 0)) a0_0 a0_1 a0_2 a0_3 a0_4 a0_5 a0_6 a0_7 a0_8 a0_9 a0_10 a0_11 l0_12)) else (instance_May.j0 k a1 true a0_0 a0_1 a0_2 a0_3 a0_4 a0_5 a0_6 a0_7 a0_8 a0_9 a0_10 a0_11 l0_12))) else (instance_May.j0 k a1 true a0_0 a0_1 a0_2 a0_3 a0_4 a0_5 a0_6 a0_7 a0_8 a0_9 a0_10 a0_11 l0_12))) = some r := h
  clear h
  have HC3 := Aside0.mk H
  clear H
  go_enter Try.func16, Try.ntmps16
  go_upto_region 1 with (first | ((with_reducible refine gate_dst (N := 2) rfl ?_); (try (refine gate_guard (by rfl) ?_; dsimp only)); refine box_event ?hg (N := 2) ?hd (cs := #[.int .i64 a0_0, .int .i64 a0_1, .int .i64 a0_2, .int .i64 a0_3, .int .i64 a0_4, .int .i64 a0_5, .int .i64 a0_6, .int .i64 a0_7, .int .i64 a0_8, .int .i64 a0_9, .string a0_10, .int .i64 a0_11, .slice A0_12 l0_12.length c0_12]) (t := 32) ?hr ?_; (case hd => rfl); (case hg => rfl); (case hr => first | (go_simp; done) | (go_simp; rfl)); intro gb690 hg w4 hbox hb; have n0_ := Aside0.mk (below_step (by repeat (first | (with_reducible first | exact HB.out | apply below_alloc | apply pw_below_drewN | apply below_drew1) | exact HB.out)) hb); have n1_ := Aside0.mk (hbox); have n2_ := Aside0.mk ((by rw [hg]; exact (below_size (by repeat (first | (with_reducible first | exact HB.out | apply below_alloc | apply pw_below_drewN | apply below_drew1) | exact HB.out))) : w.heap.size ≤ gb690)); have n3_ := Aside0.mk ((by rw [hg]; exact (below_size (by repeat (first | (with_reducible first | exact HB.out | apply below_alloc | apply pw_below_drewN | apply below_drew1) | exact HB.out))) : w.heap.size ≤ gb690)); clear HB; have HB := n0_; have BK690 := n1_; have GW690 := n2_; have GE690 := n3_; clear n0_ n1_ n2_ n3_; clear hb hbox hg))
  (try simp only [Act.put, List.setIfInBounds_toArray, List.set_cons_zero, List.set_cons_succ])
  go_cut [22] (fun v22 wc => ∃ (kq : Nat) (x22_2 : Bool), v22 = .bool x22_2 ∧ Aside0 (instance_May.j0 kq a1 x22_2 a0_0 a0_1 a0_2 a0_3 a0_4 a0_5 a0_6 a0_7 a0_8 a0_9 a0_10 a0_11 l0_12 = some r) ∧ Aside0 (kq ≤ k) ∧ Aside0 (wc.heap[gb690]? = some (.cells #[.int .i64 a0_0, .int .i64 a0_1, .int .i64 a0_2, .int .i64 a0_3, .int .i64 a0_4, .int .i64 a0_5, .int .i64 a0_6, .int .i64 a0_7, .int .i64 a0_8, .int .i64 a0_9, .string a0_10, .int .i64 a0_11, (.slice A0_12 l0_12.length c0_12)] 32 (0, 0))) ∧ Aside0 (Below w.heap.size w wc))
  case first =>
    have H := HC3.out
    clear HC3
    replace H := Option.bind_eq_some_iff.mp H
    obtain ⟨t691, A50, H⟩ := H
    replace H : (if t691 = true then ((ballot_May.f a0_3 a0_4).bind fun t692 => (if t692 = true then ((ballot_Cmp.f k a0_3 a0_4 a0_1 a0_2).bind fun t693 => (instance_May.j0 k a1 (decide (t693 > 0)) a0_0 a0_1 a0_2 a0_3 a0_4 a0_5 a0_6 a0_7 a0_8 a0_9 a0_10 a0_11 l0_12)) else (instance_May.j0 k a1 true a0_0 a0_1 a0_2 a0_3 a0_4 a0_5 a0_6 a0_7 a0_8 a0_9 a0_10 a0_11 l0_12))) else (instance_May.j0 k a1 true a0_0 a0_1 a0_2 a0_3 a0_4 a0_5 a0_6 a0_7 a0_8 a0_9 a0_10 a0_11 l0_12)) = some r := H
    have A5 := Aside0.mk A50
    clear A50
    by_cases c6 : t691 = true
    · subst c6
      have H1 : ((ballot_May.f a0_3 a0_4).bind fun t692 => (if t692 = true then ((ballot_Cmp.f k a0_3 a0_4 a0_1 a0_2).bind fun t693 => (instance_May.j0 k a1 (decide (t693 > 0)) a0_0 a0_1 a0_2 a0_3 a0_4 a0_5 a0_6 a0_7 a0_8 a0_9 a0_10 a0_11 l0_12)) else (instance_May.j0 k a1 true a0_0 a0_1 a0_2 a0_3 a0_4 a0_5 a0_6 a0_7 a0_8 a0_9 a0_10 a0_11 l0_12))) = some r := by rw [if_pos rfl] at H; exact H
      clear H
      have H := H1
      clear H1
      replace H := Option.bind_eq_some_iff.mp H
      obtain ⟨t692, A70, H⟩ := H
      replace H : (if t692 = true then ((ballot_Cmp.f k a0_3 a0_4 a0_1 a0_2).bind fun t693 => (instance_May.j0 k a1 (decide (t693 > 0)) a0_0 a0_1 a0_2 a0_3 a0_4 a0_5 a0_6 a0_7 a0_8 a0_9 a0_10 a0_11 l0_12)) else (instance_May.j0 k a1 true a0_0 a0_1 a0_2 a0_3 a0_4 a0_5 a0_6 a0_7 a0_8 a0_9 a0_10 a0_11 l0_12)) = some r := H
      have A7 := Aside0.mk A70
      clear A70
      by_cases c8 : t692 = true
      · subst c8
        have H1 : ((ballot_Cmp.f k a0_3 a0_4 a0_1 a0_2).bind fun t693 => (instance_May.j0 k a1 (decide (t693 > 0)) a0_0 a0_1 a0_2 a0_3 a0_4 a0_5 a0_6 a0_7 a0_8 a0_9 a0_10 a0_11 l0_12)) = some r := by rw [if_pos rfl] at H; exact H
        clear H
        have H := H1
        clear H1
        replace H := Option.bind_eq_some_iff.mp H
        obtain ⟨t693, A90, H⟩ := H
        replace H : (instance_May.j0 k a1 (decide (t693 > 0)) a0_0 a0_1 a0_2 a0_3 a0_4 a0_5 a0_6 a0_7 a0_8 a0_9 a0_10 a0_11 l0_12) = some r := H
        have A9 := Aside0.mk A90
        clear A90
        have H' := Aside0.mk H
        clear H
        have hcz10_0 : w4.cell? ⟨gb690, 0, none⟩ = some (.int .i64 a0_0) := (blk_cell BK690.out 0).trans rfl
        have hcz10_1 : w4.cell? ⟨gb690, 1, none⟩ = some (.int .i64 a0_1) := (blk_cell BK690.out 1).trans rfl
        have hcz10_2 : w4.cell? ⟨gb690, 2, none⟩ = some (.int .i64 a0_2) := (blk_cell BK690.out 2).trans rfl
        have hcz10_3 : w4.cell? ⟨gb690, 3, none⟩ = some (.int .i64 a0_3) := (blk_cell BK690.out 3).trans rfl
        have hcz10_4 : w4.cell? ⟨gb690, 4, none⟩ = some (.int .i64 a0_4) := (blk_cell BK690.out 4).trans rfl
        have hcz10_5 : w4.cell? ⟨gb690, 5, none⟩ = some (.int .i64 a0_5) := (blk_cell BK690.out 5).trans rfl
        have hcz10_6 : w4.cell? ⟨gb690, 6, none⟩ = some (.int .i64 a0_6) := (blk_cell BK690.out 6).trans rfl
        have hcz10_7 : w4.cell? ⟨gb690, 7, none⟩ = some (.int .i64 a0_7) := (blk_cell BK690.out 7).trans rfl
        have hcz10_8 : w4.cell? ⟨gb690, 8, none⟩ = some (.int .i64 a0_8) := (blk_cell BK690.out 8).trans rfl
        have hcz10_9 : w4.cell? ⟨gb690, 9, none⟩ = some (.int .i64 a0_9) := (blk_cell BK690.out 9).trans rfl
        have hcz10_10 : w4.cell? ⟨gb690, 10, none⟩ = some (.string a0_10) := (blk_cell BK690.out 10).trans rfl
        have hcz10_11 : w4.cell? ⟨gb690, 11, none⟩ = some (.int .i64 a0_11) := (blk_cell BK690.out 11).trans rfl
        have hcz10_12 : w4.cell? ⟨gb690, 12, none⟩ = some (.slice A0_12 l0_12.length c0_12) := (blk_cell BK690.out 12).trans rfl
        have hfz10_0 := blk_frozen BK690.out 0
        have hfz10_1 := blk_frozen BK690.out 1
        have hfz10_2 := blk_frozen BK690.out 2
        have hfz10_3 := blk_frozen BK690.out 3
        have hfz10_4 := blk_frozen BK690.out 4
        have hfz10_5 := blk_frozen BK690.out 5
        have hfz10_6 := blk_frozen BK690.out 6
        have hfz10_7 := blk_frozen BK690.out 7
        have hfz10_8 := blk_frozen BK690.out 8
        have hfz10_9 := blk_frozen BK690.out 9
        have hfz10_10 := blk_frozen BK690.out 10
        have hfz10_11 := blk_frozen BK690.out 11
        have hfz10_12 := blk_frozen BK690.out 12
        go_wp2_with (first | ((with_reducible refine gate_callee (f := 30) rfl ?_); refine goesL_ (some 7) rfl rfl Try.func30 (by kernel_rfl) rfl #[.agg #[.int .i64 a0_1, .int .i64 a0_2]] rfl (by (try simp only [List.map_toArray, List.map_cons, List.map_nil]); first | done | rfl | (simp only [List.length_drop, List.length_take]; rfl)) ?_; (with_reducible refine (ballot_May.calls a0_1 a0_2 true _ A5.out).mono ?_); rintro e w11 ⟨rfl, hb⟩; refine ⟨_, rfl, ?_⟩; have n0_ := Aside0.mk (blk_below (g := gb690) (by (with_reducible repeat (first | refine blk_drewN ?_ _ | refine blk_drew ?_ | refine blk_alloc ?_ _)); exact BK690.out) hb); have n1_ := Aside0.mk (below_step (by repeat (first | (with_reducible first | exact HB.out | apply below_alloc | apply pw_below_drewN | apply below_drew1 | refine below_set ?_ GE690.out) | exact HB.out)) hb); clear BK690; clear HB; have BK690 := n0_; have HB := n1_; clear n0_ n1_; (try clear hb); (try clear hb2); (try clear hk); (try clear hi); have hcz12_0 : w11.cell? ⟨gb690, 0, none⟩ = some (.int .i64 a0_0) := (blk_cell BK690.out 0).trans rfl; have hcz12_1 : w11.cell? ⟨gb690, 1, none⟩ = some (.int .i64 a0_1) := (blk_cell BK690.out 1).trans rfl; have hcz12_2 : w11.cell? ⟨gb690, 2, none⟩ = some (.int .i64 a0_2) := (blk_cell BK690.out 2).trans rfl; have hcz12_3 : w11.cell? ⟨gb690, 3, none⟩ = some (.int .i64 a0_3) := (blk_cell BK690.out 3).trans rfl; have hcz12_4 : w11.cell? ⟨gb690, 4, none⟩ = some (.int .i64 a0_4) := (blk_cell BK690.out 4).trans rfl; have hcz12_5 : w11.cell? ⟨gb690, 5, none⟩ = some (.int .i64 a0_5) := (blk_cell BK690.out 5).trans rfl; have hcz12_6 : w11.cell? ⟨gb690, 6, none⟩ = some (.int .i64 a0_6) := (blk_cell BK690.out 6).trans rfl; have hcz12_7 : w11.cell? ⟨gb690, 7, none⟩ = some (.int .i64 a0_7) := (blk_cell BK690.out 7).trans rfl; have hcz12_8 : w11.cell? ⟨gb690, 8, none⟩ = some (.int .i64 a0_8) := (blk_cell BK690.out 8).trans rfl; have hcz12_9 : w11.cell? ⟨gb690, 9, none⟩ = some (.int .i64 a0_9) := (blk_cell BK690.out 9).trans rfl; have hcz12_10 : w11.cell? ⟨gb690, 10, none⟩ = some (.string a0_10) := (blk_cell BK690.out 10).trans rfl; have hcz12_11 : w11.cell? ⟨gb690, 11, none⟩ = some (.int .i64 a0_11) := (blk_cell BK690.out 11).trans rfl; have hcz12_12 : w11.cell? ⟨gb690, 12, none⟩ = some (.slice A0_12 l0_12.length c0_12) := (blk_cell BK690.out 12).trans rfl; have hfz12_0 := blk_frozen BK690.out 0; have hfz12_1 := blk_frozen BK690.out 1; have hfz12_2 := blk_frozen BK690.out 2; have hfz12_3 := blk_frozen BK690.out 3; have hfz12_4 := blk_frozen BK690.out 4; have hfz12_5 := blk_frozen BK690.out 5; have hfz12_6 := blk_frozen BK690.out 6; have hfz12_7 := blk_frozen BK690.out 7; have hfz12_8 := blk_frozen BK690.out 8; have hfz12_9 := blk_frozen BK690.out 9; have hfz12_10 := blk_frozen BK690.out 10; have hfz12_11 := blk_frozen BK690.out 11; have hfz12_12 := blk_frozen BK690.out 12) | (go_at_call 30; (with_reducible refine (ballot_May.calls a0_3 a0_4 true _ A7.out).mono ?_); rintro e w13 ⟨rfl, hb⟩; have n0_ := Aside0.mk (blk_below (g := gb690) (by (with_reducible repeat (first | refine blk_drewN ?_ _ | refine blk_drew ?_ | refine blk_alloc ?_ _)); exact BK690.out) hb); have n1_ := Aside0.mk (below_step (by repeat (first | (with_reducible first | exact HB.out | apply below_alloc | apply pw_below_drewN | apply below_drew1 | refine below_set ?_ GE690.out) | exact HB.out)) hb); clear BK690; clear HB; have BK690 := n0_; have HB := n1_; clear n0_ n1_; (try clear hb); (try clear hb2); (try clear hk); (try clear hi); have hcz14_0 : w13.cell? ⟨gb690, 0, none⟩ = some (.int .i64 a0_0) := (blk_cell BK690.out 0).trans rfl; have hcz14_1 : w13.cell? ⟨gb690, 1, none⟩ = some (.int .i64 a0_1) := (blk_cell BK690.out 1).trans rfl; have hcz14_2 : w13.cell? ⟨gb690, 2, none⟩ = some (.int .i64 a0_2) := (blk_cell BK690.out 2).trans rfl; have hcz14_3 : w13.cell? ⟨gb690, 3, none⟩ = some (.int .i64 a0_3) := (blk_cell BK690.out 3).trans rfl; have hcz14_4 : w13.cell? ⟨gb690, 4, none⟩ = some (.int .i64 a0_4) := (blk_cell BK690.out 4).trans rfl; have hcz14_5 : w13.cell? ⟨gb690, 5, none⟩ = some (.int .i64 a0_5) := (blk_cell BK690.out 5).trans rfl; have hcz14_6 : w13.cell? ⟨gb690, 6, none⟩ = some (.int .i64 a0_6) := (blk_cell BK690.out 6).trans rfl; have hcz14_7 : w13.cell? ⟨gb690, 7, none⟩ = some (.int .i64 a0_7) := (blk_cell BK690.out 7).trans rfl; have hcz14_8 : w13.cell? ⟨gb690, 8, none⟩ = some (.int .i64 a0_8) := (blk_cell BK690.out 8).trans rfl; have hcz14_9 : w13.cell? ⟨gb690, 9, none⟩ = some (.int .i64 a0_9) := (blk_cell BK690.out 9).trans rfl; have hcz14_10 : w13.cell? ⟨gb690, 10, none⟩ = some (.string a0_10) := (blk_cell BK690.out 10).trans rfl; have hcz14_11 : w13.cell? ⟨gb690, 11, none⟩ = some (.int .i64 a0_11) := (blk_cell BK690.out 11).trans rfl; have hcz14_12 : w13.cell? ⟨gb690, 12, none⟩ = some (.slice A0_12 l0_12.length c0_12) := (blk_cell BK690.out 12).trans rfl; have hfz14_0 := blk_frozen BK690.out 0; have hfz14_1 := blk_frozen BK690.out 1; have hfz14_2 := blk_frozen BK690.out 2; have hfz14_3 := blk_frozen BK690.out 3; have hfz14_4 := blk_frozen BK690.out 4; have hfz14_5 := blk_frozen BK690.out 5; have hfz14_6 := blk_frozen BK690.out 6; have hfz14_7 := blk_frozen BK690.out 7; have hfz14_8 := blk_frozen BK690.out 8; have hfz14_9 := blk_frozen BK690.out 9; have hfz14_10 := blk_frozen BK690.out 10; have hfz14_11 := blk_frozen BK690.out 11; have hfz14_12 := blk_frozen BK690.out 12) | (go_at_call 11; (with_reducible refine (ballot_Cmp.calls k a0_3 a0_4 a0_1 a0_2 t693 _ A9.out).mono ?_); rintro e w15 ⟨rfl, hb⟩; have n0_ := Aside0.mk (blk_below (g := gb690) (by (with_reducible repeat (first | refine blk_drewN ?_ _ | refine blk_drew ?_ | refine blk_alloc ?_ _)); exact BK690.out) hb); have n1_ := Aside0.mk (below_step (by repeat (first | (with_reducible first | exact HB.out | apply below_alloc | apply pw_below_drewN | apply below_drew1 | refine below_set ?_ GE690.out) | exact HB.out)) hb); clear BK690; clear HB; have BK690 := n0_; have HB := n1_; clear n0_ n1_; (try clear hb); (try clear hb2); (try clear hk); (try clear hi)))
        go_meet
        case rel => exact ⟨_, (decide (t693 > 0)), (by first | rfl | (simp; done) | (simp [*]; done)), H', ⟨by first | omega | exact Nat.le_refl _⟩, ⟨by (with_reducible repeat (first | refine blk_drewN ?_ _ | refine blk_drew ?_ | refine blk_alloc ?_ _)); exact BK690.out⟩, ⟨by repeat (first | (with_reducible first | exact HB.out | apply below_alloc | apply pw_below_drewN | apply below_drew1 | refine below_set ?_ GE690.out) | exact HB.out)⟩⟩
      · replace c8 := Bool.eq_false_iff.mpr c8
        subst c8
        have H1 : (instance_May.j0 k a1 true a0_0 a0_1 a0_2 a0_3 a0_4 a0_5 a0_6 a0_7 a0_8 a0_9 a0_10 a0_11 l0_12) = some r := by rw [if_neg (show ¬ (false = true) by decide)] at H; exact H
        clear H
        have H := H1
        clear H1
        have H' := Aside0.mk H
        clear H
        have hcz16_0 : w4.cell? ⟨gb690, 0, none⟩ = some (.int .i64 a0_0) := (blk_cell BK690.out 0).trans rfl
        have hcz16_1 : w4.cell? ⟨gb690, 1, none⟩ = some (.int .i64 a0_1) := (blk_cell BK690.out 1).trans rfl
        have hcz16_2 : w4.cell? ⟨gb690, 2, none⟩ = some (.int .i64 a0_2) := (blk_cell BK690.out 2).trans rfl
        have hcz16_3 : w4.cell? ⟨gb690, 3, none⟩ = some (.int .i64 a0_3) := (blk_cell BK690.out 3).trans rfl
        have hcz16_4 : w4.cell? ⟨gb690, 4, none⟩ = some (.int .i64 a0_4) := (blk_cell BK690.out 4).trans rfl
        have hcz16_5 : w4.cell? ⟨gb690, 5, none⟩ = some (.int .i64 a0_5) := (blk_cell BK690.out 5).trans rfl
        have hcz16_6 : w4.cell? ⟨gb690, 6, none⟩ = some (.int .i64 a0_6) := (blk_cell BK690.out 6).trans rfl
        have hcz16_7 : w4.cell? ⟨gb690, 7, none⟩ = some (.int .i64 a0_7) := (blk_cell BK690.out 7).trans rfl
        have hcz16_8 : w4.cell? ⟨gb690, 8, none⟩ = some (.int .i64 a0_8) := (blk_cell BK690.out 8).trans rfl
        have hcz16_9 : w4.cell? ⟨gb690, 9, none⟩ = some (.int .i64 a0_9) := (blk_cell BK690.out 9).trans rfl
        have hcz16_10 : w4.cell? ⟨gb690, 10, none⟩ = some (.string a0_10) := (blk_cell BK690.out 10).trans rfl
        have hcz16_11 : w4.cell? ⟨gb690, 11, none⟩ = some (.int .i64 a0_11) := (blk_cell BK690.out 11).trans rfl
        have hcz16_12 : w4.cell? ⟨gb690, 12, none⟩ = some (.slice A0_12 l0_12.length c0_12) := (blk_cell BK690.out 12).trans rfl
        have hfz16_0 := blk_frozen BK690.out 0
        have hfz16_1 := blk_frozen BK690.out 1
        have hfz16_2 := blk_frozen BK690.out 2
        have hfz16_3 := blk_frozen BK690.out 3
        have hfz16_4 := blk_frozen BK690.out 4
        have hfz16_5 := blk_frozen BK690.out 5
        have hfz16_6 := blk_frozen BK690.out 6
        have hfz16_7 := blk_frozen BK690.out 7
        have hfz16_8 := blk_frozen BK690.out 8
        have hfz16_9 := blk_frozen BK690.out 9
        have hfz16_10 := blk_frozen BK690.out 10
        have hfz16_11 := blk_frozen BK690.out 11
        have hfz16_12 := blk_frozen BK690.out 12
        go_wp2_with (first | ((with_reducible refine gate_callee (f := 30) rfl ?_); refine goesL_ (some 7) rfl rfl Try.func30 (by kernel_rfl) rfl #[.agg #[.int .i64 a0_1, .int .i64 a0_2]] rfl (by (try simp only [List.map_toArray, List.map_cons, List.map_nil]); first | done | rfl | (simp only [List.length_drop, List.length_take]; rfl)) ?_; (with_reducible refine (ballot_May.calls a0_1 a0_2 true _ A5.out).mono ?_); rintro e w17 ⟨rfl, hb⟩; refine ⟨_, rfl, ?_⟩; have n0_ := Aside0.mk (blk_below (g := gb690) (by (with_reducible repeat (first | refine blk_drewN ?_ _ | refine blk_drew ?_ | refine blk_alloc ?_ _)); exact BK690.out) hb); have n1_ := Aside0.mk (below_step (by repeat (first | (with_reducible first | exact HB.out | apply below_alloc | apply pw_below_drewN | apply below_drew1 | refine below_set ?_ GE690.out) | exact HB.out)) hb); clear BK690; clear HB; have BK690 := n0_; have HB := n1_; clear n0_ n1_; (try clear hb); (try clear hb2); (try clear hk); (try clear hi); have hcz18_0 : w17.cell? ⟨gb690, 0, none⟩ = some (.int .i64 a0_0) := (blk_cell BK690.out 0).trans rfl; have hcz18_1 : w17.cell? ⟨gb690, 1, none⟩ = some (.int .i64 a0_1) := (blk_cell BK690.out 1).trans rfl; have hcz18_2 : w17.cell? ⟨gb690, 2, none⟩ = some (.int .i64 a0_2) := (blk_cell BK690.out 2).trans rfl; have hcz18_3 : w17.cell? ⟨gb690, 3, none⟩ = some (.int .i64 a0_3) := (blk_cell BK690.out 3).trans rfl; have hcz18_4 : w17.cell? ⟨gb690, 4, none⟩ = some (.int .i64 a0_4) := (blk_cell BK690.out 4).trans rfl; have hcz18_5 : w17.cell? ⟨gb690, 5, none⟩ = some (.int .i64 a0_5) := (blk_cell BK690.out 5).trans rfl; have hcz18_6 : w17.cell? ⟨gb690, 6, none⟩ = some (.int .i64 a0_6) := (blk_cell BK690.out 6).trans rfl; have hcz18_7 : w17.cell? ⟨gb690, 7, none⟩ = some (.int .i64 a0_7) := (blk_cell BK690.out 7).trans rfl; have hcz18_8 : w17.cell? ⟨gb690, 8, none⟩ = some (.int .i64 a0_8) := (blk_cell BK690.out 8).trans rfl; have hcz18_9 : w17.cell? ⟨gb690, 9, none⟩ = some (.int .i64 a0_9) := (blk_cell BK690.out 9).trans rfl; have hcz18_10 : w17.cell? ⟨gb690, 10, none⟩ = some (.string a0_10) := (blk_cell BK690.out 10).trans rfl; have hcz18_11 : w17.cell? ⟨gb690, 11, none⟩ = some (.int .i64 a0_11) := (blk_cell BK690.out 11).trans rfl; have hcz18_12 : w17.cell? ⟨gb690, 12, none⟩ = some (.slice A0_12 l0_12.length c0_12) := (blk_cell BK690.out 12).trans rfl; have hfz18_0 := blk_frozen BK690.out 0; have hfz18_1 := blk_frozen BK690.out 1; have hfz18_2 := blk_frozen BK690.out 2; have hfz18_3 := blk_frozen BK690.out 3; have hfz18_4 := blk_frozen BK690.out 4; have hfz18_5 := blk_frozen BK690.out 5; have hfz18_6 := blk_frozen BK690.out 6; have hfz18_7 := blk_frozen BK690.out 7; have hfz18_8 := blk_frozen BK690.out 8; have hfz18_9 := blk_frozen BK690.out 9; have hfz18_10 := blk_frozen BK690.out 10; have hfz18_11 := blk_frozen BK690.out 11; have hfz18_12 := blk_frozen BK690.out 12) | (go_at_call 30; (with_reducible refine (ballot_May.calls a0_3 a0_4 false _ A7.out).mono ?_); rintro e w19 ⟨rfl, hb⟩; have n0_ := Aside0.mk (blk_below (g := gb690) (by (with_reducible repeat (first | refine blk_drewN ?_ _ | refine blk_drew ?_ | refine blk_alloc ?_ _)); exact BK690.out) hb); have n1_ := Aside0.mk (below_step (by repeat (first | (with_reducible first | exact HB.out | apply below_alloc | apply pw_below_drewN | apply below_drew1 | refine below_set ?_ GE690.out) | exact HB.out)) hb); clear BK690; clear HB; have BK690 := n0_; have HB := n1_; clear n0_ n1_; (try clear hb); (try clear hb2); (try clear hk); (try clear hi)))
        go_meet
        case rel => exact ⟨_, (true), (by first | rfl | (simp; done) | (simp [*]; done)), H', ⟨by first | omega | exact Nat.le_refl _⟩, ⟨by (with_reducible repeat (first | refine blk_drewN ?_ _ | refine blk_drew ?_ | refine blk_alloc ?_ _)); exact BK690.out⟩, ⟨by repeat (first | (with_reducible first | exact HB.out | apply below_alloc | apply pw_below_drewN | apply below_drew1 | refine below_set ?_ GE690.out) | exact HB.out)⟩⟩
    · replace c6 := Bool.eq_false_iff.mpr c6
      subst c6
      have H1 : (instance_May.j0 k a1 true a0_0 a0_1 a0_2 a0_3 a0_4 a0_5 a0_6 a0_7 a0_8 a0_9 a0_10 a0_11 l0_12) = some r := by rw [if_neg (show ¬ (false = true) by decide)] at H; exact H
      clear H
      have H := H1
      clear H1
      have H' := Aside0.mk H
      clear H
      have hcz20_0 : w4.cell? ⟨gb690, 0, none⟩ = some (.int .i64 a0_0) := (blk_cell BK690.out 0).trans rfl
      have hcz20_1 : w4.cell? ⟨gb690, 1, none⟩ = some (.int .i64 a0_1) := (blk_cell BK690.out 1).trans rfl
      have hcz20_2 : w4.cell? ⟨gb690, 2, none⟩ = some (.int .i64 a0_2) := (blk_cell BK690.out 2).trans rfl
      have hcz20_3 : w4.cell? ⟨gb690, 3, none⟩ = some (.int .i64 a0_3) := (blk_cell BK690.out 3).trans rfl
      have hcz20_4 : w4.cell? ⟨gb690, 4, none⟩ = some (.int .i64 a0_4) := (blk_cell BK690.out 4).trans rfl
      have hcz20_5 : w4.cell? ⟨gb690, 5, none⟩ = some (.int .i64 a0_5) := (blk_cell BK690.out 5).trans rfl
      have hcz20_6 : w4.cell? ⟨gb690, 6, none⟩ = some (.int .i64 a0_6) := (blk_cell BK690.out 6).trans rfl
      have hcz20_7 : w4.cell? ⟨gb690, 7, none⟩ = some (.int .i64 a0_7) := (blk_cell BK690.out 7).trans rfl
      have hcz20_8 : w4.cell? ⟨gb690, 8, none⟩ = some (.int .i64 a0_8) := (blk_cell BK690.out 8).trans rfl
      have hcz20_9 : w4.cell? ⟨gb690, 9, none⟩ = some (.int .i64 a0_9) := (blk_cell BK690.out 9).trans rfl
      have hcz20_10 : w4.cell? ⟨gb690, 10, none⟩ = some (.string a0_10) := (blk_cell BK690.out 10).trans rfl
      have hcz20_11 : w4.cell? ⟨gb690, 11, none⟩ = some (.int .i64 a0_11) := (blk_cell BK690.out 11).trans rfl
      have hcz20_12 : w4.cell? ⟨gb690, 12, none⟩ = some (.slice A0_12 l0_12.length c0_12) := (blk_cell BK690.out 12).trans rfl
      have hfz20_0 := blk_frozen BK690.out 0
      have hfz20_1 := blk_frozen BK690.out 1
      have hfz20_2 := blk_frozen BK690.out 2
      have hfz20_3 := blk_frozen BK690.out 3
      have hfz20_4 := blk_frozen BK690.out 4
      have hfz20_5 := blk_frozen BK690.out 5
      have hfz20_6 := blk_frozen BK690.out 6
      have hfz20_7 := blk_frozen BK690.out 7
      have hfz20_8 := blk_frozen BK690.out 8
      have hfz20_9 := blk_frozen BK690.out 9
      have hfz20_10 := blk_frozen BK690.out 10
      have hfz20_11 := blk_frozen BK690.out 11
      have hfz20_12 := blk_frozen BK690.out 12
      go_wp2_with (first | ((with_reducible refine gate_callee (f := 30) rfl ?_); refine goesL_ (some 7) rfl rfl Try.func30 (by kernel_rfl) rfl #[.agg #[.int .i64 a0_1, .int .i64 a0_2]] rfl (by (try simp only [List.map_toArray, List.map_cons, List.map_nil]); first | done | rfl | (simp only [List.length_drop, List.length_take]; rfl)) ?_; (with_reducible refine (ballot_May.calls a0_1 a0_2 false _ A5.out).mono ?_); rintro e w21 ⟨rfl, hb⟩; refine ⟨_, rfl, ?_⟩; have n0_ := Aside0.mk (blk_below (g := gb690) (by (with_reducible repeat (first | refine blk_drewN ?_ _ | refine blk_drew ?_ | refine blk_alloc ?_ _)); exact BK690.out) hb); have n1_ := Aside0.mk (below_step (by repeat (first | (with_reducible first | exact HB.out | apply below_alloc | apply pw_below_drewN | apply below_drew1 | refine below_set ?_ GE690.out) | exact HB.out)) hb); clear BK690; clear HB; have BK690 := n0_; have HB := n1_; clear n0_ n1_; (try clear hb); (try clear hb2); (try clear hk); (try clear hi)))
      go_meet
      case rel => exact ⟨_, (true), (by first | rfl | (simp; done) | (simp [*]; done)), H', ⟨by first | omega | exact Nat.le_refl _⟩, ⟨by (with_reducible repeat (first | refine blk_drewN ?_ _ | refine blk_drew ?_ | refine blk_alloc ?_ _)); exact BK690.out⟩, ⟨by repeat (first | (with_reducible first | exact HB.out | apply below_alloc | apply pw_below_drewN | apply below_drew1 | refine below_set ?_ GE690.out) | exact HB.out)⟩⟩
  case rest =>
    clear HC3
    try clear c1
    try clear p2
    try clear c3
    try clear c6
    try clear c8
    try clear c16
    try clear hcz10_0
    try clear hcz10_1
    try clear hcz10_10
    try clear hcz10_11
    try clear hcz10_12
    try clear hcz10_2
    try clear hcz10_3
    try clear hcz10_4
    try clear hcz10_5
    try clear hcz10_6
    try clear hcz10_7
    try clear hcz10_8
    try clear hcz10_9
    try clear hcz12_0
    try clear hcz12_1
    try clear hcz12_10
    try clear hcz12_11
    try clear hcz12_12
    try clear hcz12_2
    try clear hcz12_3
    try clear hcz12_4
    try clear hcz12_5
    try clear hcz12_6
    try clear hcz12_7
    try clear hcz12_8
    try clear hcz12_9
    try clear hcz14_0
    try clear hcz14_1
    try clear hcz14_10
    try clear hcz14_11
    try clear hcz14_12
    try clear hcz14_2
    try clear hcz14_3
    try clear hcz14_4
    try clear hcz14_5
    try clear hcz14_6
    try clear hcz14_7
    try clear hcz14_8
    try clear hcz14_9
    try clear hcz16_0
    try clear hcz16_1
    try clear hcz16_10
    try clear hcz16_11
    try clear hcz16_12
    try clear hcz16_2
    try clear hcz16_3
    try clear hcz16_4
    try clear hcz16_5
    try clear hcz16_6
    try clear hcz16_7
    try clear hcz16_8
    try clear hcz16_9
    try clear hcz18_0
    try clear hcz18_1
    try clear hcz18_10
    try clear hcz18_11
    try clear hcz18_12
    try clear hcz18_2
    try clear hcz18_3
    try clear hcz18_4
    try clear hcz18_5
    try clear hcz18_6
    try clear hcz18_7
    try clear hcz18_8
    try clear hcz18_9
    try clear hcz20_0
    try clear hcz20_1
    try clear hcz20_10
    try clear hcz20_11
    try clear hcz20_12
    try clear hcz20_2
    try clear hcz20_3
    try clear hcz20_4
    try clear hcz20_5
    try clear hcz20_6
    try clear hcz20_7
    try clear hcz20_8
    try clear hcz20_9
    try clear hfz10_0
    try clear hfz10_1
    try clear hfz10_10
    try clear hfz10_11
    try clear hfz10_12
    try clear hfz10_2
    try clear hfz10_3
    try clear hfz10_4
    try clear hfz10_5
    try clear hfz10_6
    try clear hfz10_7
    try clear hfz10_8
    try clear hfz10_9
    try clear hfz12_0
    try clear hfz12_1
    try clear hfz12_10
    try clear hfz12_11
    try clear hfz12_12
    try clear hfz12_2
    try clear hfz12_3
    try clear hfz12_4
    try clear hfz12_5
    try clear hfz12_6
    try clear hfz12_7
    try clear hfz12_8
    try clear hfz12_9
    try clear hfz14_0
    try clear hfz14_1
    try clear hfz14_10
    try clear hfz14_11
    try clear hfz14_12
    try clear hfz14_2
    try clear hfz14_3
    try clear hfz14_4
    try clear hfz14_5
    try clear hfz14_6
    try clear hfz14_7
    try clear hfz14_8
    try clear hfz14_9
    try clear hfz16_0
    try clear hfz16_1
    try clear hfz16_10
    try clear hfz16_11
    try clear hfz16_12
    try clear hfz16_2
    try clear hfz16_3
    try clear hfz16_4
    try clear hfz16_5
    try clear hfz16_6
    try clear hfz16_7
    try clear hfz16_8
    try clear hfz16_9
    try clear hfz18_0
    try clear hfz18_1
    try clear hfz18_10
    try clear hfz18_11
    try clear hfz18_12
    try clear hfz18_2
    try clear hfz18_3
    try clear hfz18_4
    try clear hfz18_5
    try clear hfz18_6
    try clear hfz18_7
    try clear hfz18_8
    try clear hfz18_9
    try clear hfz20_0
    try clear hfz20_1
    try clear hfz20_10
    try clear hfz20_11
    try clear hfz20_12
    try clear hfz20_2
    try clear hfz20_3
    try clear hfz20_4
    try clear hfz20_5
    try clear hfz20_6
    try clear hfz20_7
    try clear hfz20_8
    try clear hfz20_9
    obtain ⟨kq, x22_2, rfl, HA, HJ2, BK690, HB⟩ := hcut
    cases kq with
    | zero => exact absurd HA.out (by simp [instance_May.j0])
    | succ kj2 =>
      have H := HA.out
      clear HA
      simp only [instance_May.j0] at H
      by_cases c22 : x22_2 = true
      · subst c22
        have H1 : (some false) = some r := by rw [if_pos rfl] at H; exact H
        clear H
        have H := H1
        clear H1
        obtain rfl := Option.some.inj H
        go_wp2
        go_ret
        exact ⟨by first | rfl | (simp [errW_none, errW_some] <;> rfl) | (simp [*, errW_none, errW_some] <;> rfl), by repeat (first | (with_reducible first | exact HB.out | apply below_alloc | apply pw_below_drewN | apply below_drew1 | refine below_set ?_ GE690.out) | exact HB.out)⟩
      · replace c22 := Bool.eq_false_iff.mpr c22
        subst c22
        have H1 : (if a0_0 = 0 then (if (a0_3 == 0 && (a0_4 == 0)) = true then (if (a0_5 == 0 && (a0_6 == 0 && (a0_7 == 0 && (a0_8 == 0 && (a0_9 == 0 && (a0_10.toList == ([] : List UInt8))))))) = true then (if a0_11 = 0 then (some ((l0_12.length : Int) == 0)) else (some false)) else (some false)) else (some false)) else (if a0_0 = 1 then (instance_May.j1 kj2 a1 a0_0 (a0_0 == 1) a0_0 a0_1 a0_2 a0_3 a0_4 a0_5 a0_6 a0_7 a0_8 a0_9 a0_10 a0_11 l0_12) else (instance_May.j1 kj2 a1 a0_0 (a0_0 == 2) a0_0 a0_1 a0_2 a0_3 a0_4 a0_5 a0_6 a0_7 a0_8 a0_9 a0_10 a0_11 l0_12))) = some r := by rw [if_neg (show ¬ (false = true) by decide)] at H; exact H
        clear H
        have H := H1
        clear H1
        by_cases c23 : a0_0 = 0
        · rw [if_pos c23] at H
          have c23b0 : (a0_0 == 0) = true := beq_iff_eq.mpr c23
          have c23b1 : (a0_0 != 0) = false := bne_eq_false_iff_eq.mpr c23
          clear c23
          by_cases c24 : (a0_3 == 0 && (a0_4 == 0)) = true
          · rw [if_pos c24] at H
            have c24b0 : (a0_3 == 0 && (a0_4 == 0)) = true := c24
            (try (have c24b1 : decide (a0_3 = 0 && (a0_4 == 0)) = true := by simpa using c24))
            (try (have c24b2 : (a0_3 == 0 && (a0_4 == 0)) = true := by simpa using c24))
            clear c24
            by_cases c25 : (a0_5 == 0 && (a0_6 == 0 && (a0_7 == 0 && (a0_8 == 0 && (a0_9 == 0 && (a0_10.toList == ([] : List UInt8))))))) = true
            · rw [if_pos c25] at H
              have c25b0 : (a0_5 == 0 && (a0_6 == 0 && (a0_7 == 0 && (a0_8 == 0 && (a0_9 == 0 && (a0_10.toList == ([] : List UInt8))))))) = true := c25
              have c25bE : (a0_5 == 0 && (a0_6 == 0 && (a0_7 == 0 && (a0_8 == 0 && (a0_9 == 0 && a0_10.toList.isEmpty))))) = true := by simp only [isEmpty_beq]; exact c25
              (try (have c25b1 : decide (a0_5 = 0 && (a0_6 == 0 && (a0_7 == 0 && (a0_8 == 0 && (a0_9 == 0 && (a0_10.toList == ([] : List UInt8))))))) = true := by simpa using c25))
              (try (have c25b2 : (a0_5 == 0 && (a0_6 == 0 && (a0_7 == 0 && (a0_8 == 0 && (a0_9 == 0 && (a0_10.toList == ([] : List UInt8))))))) = true := by simpa using c25))
              clear c25
              by_cases c26 : a0_11 = 0
              · rw [if_pos c26] at H
                have c26b0 : (a0_11 == 0) = true := beq_iff_eq.mpr c26
                have c26b1 : (a0_11 != 0) = false := bne_eq_false_iff_eq.mpr c26
                clear c26
                obtain rfl := Option.some.inj H
                have hcz27_0 : wc.cell? ⟨gb690, 0, none⟩ = some (.int .i64 a0_0) := (blk_cell BK690.out 0).trans rfl
                have hcz27_1 : wc.cell? ⟨gb690, 1, none⟩ = some (.int .i64 a0_1) := (blk_cell BK690.out 1).trans rfl
                have hcz27_2 : wc.cell? ⟨gb690, 2, none⟩ = some (.int .i64 a0_2) := (blk_cell BK690.out 2).trans rfl
                have hcz27_3 : wc.cell? ⟨gb690, 3, none⟩ = some (.int .i64 a0_3) := (blk_cell BK690.out 3).trans rfl
                have hcz27_4 : wc.cell? ⟨gb690, 4, none⟩ = some (.int .i64 a0_4) := (blk_cell BK690.out 4).trans rfl
                have hcz27_5 : wc.cell? ⟨gb690, 5, none⟩ = some (.int .i64 a0_5) := (blk_cell BK690.out 5).trans rfl
                have hcz27_6 : wc.cell? ⟨gb690, 6, none⟩ = some (.int .i64 a0_6) := (blk_cell BK690.out 6).trans rfl
                have hcz27_7 : wc.cell? ⟨gb690, 7, none⟩ = some (.int .i64 a0_7) := (blk_cell BK690.out 7).trans rfl
                have hcz27_8 : wc.cell? ⟨gb690, 8, none⟩ = some (.int .i64 a0_8) := (blk_cell BK690.out 8).trans rfl
                have hcz27_9 : wc.cell? ⟨gb690, 9, none⟩ = some (.int .i64 a0_9) := (blk_cell BK690.out 9).trans rfl
                have hcz27_10 : wc.cell? ⟨gb690, 10, none⟩ = some (.string a0_10) := (blk_cell BK690.out 10).trans rfl
                have hcz27_11 : wc.cell? ⟨gb690, 11, none⟩ = some (.int .i64 a0_11) := (blk_cell BK690.out 11).trans rfl
                have hcz27_12 : wc.cell? ⟨gb690, 12, none⟩ = some (.slice A0_12 l0_12.length c0_12) := (blk_cell BK690.out 12).trans rfl
                have hfz27_0 := blk_frozen BK690.out 0
                have hfz27_1 := blk_frozen BK690.out 1
                have hfz27_2 := blk_frozen BK690.out 2
                have hfz27_3 := blk_frozen BK690.out 3
                have hfz27_4 := blk_frozen BK690.out 4
                have hfz27_5 := blk_frozen BK690.out 5
                have hfz27_6 := blk_frozen BK690.out 6
                have hfz27_7 := blk_frozen BK690.out 7
                have hfz27_8 := blk_frozen BK690.out 8
                have hfz27_9 := blk_frozen BK690.out 9
                have hfz27_10 := blk_frozen BK690.out 10
                have hfz27_11 := blk_frozen BK690.out 11
                have hfz27_12 := blk_frozen BK690.out 12
                go_wp2
                go_ret
                exact ⟨by first | rfl | (simp [errW_none, errW_some] <;> rfl) | (simp [*, errW_none, errW_some] <;> rfl), by repeat (first | (with_reducible first | exact HB.out | apply below_alloc | apply pw_below_drewN | apply below_drew1 | refine below_set ?_ GE690.out) | exact HB.out)⟩
              · rw [if_neg c26] at H
                have c26b0 : (a0_11 == 0) = false := beq_eq_false_iff_ne.mpr c26
                have c26b1 : (a0_11 != 0) = true := bne_iff_ne.mpr c26
                obtain rfl := Option.some.inj H
                have hcz28_0 : wc.cell? ⟨gb690, 0, none⟩ = some (.int .i64 a0_0) := (blk_cell BK690.out 0).trans rfl
                have hcz28_1 : wc.cell? ⟨gb690, 1, none⟩ = some (.int .i64 a0_1) := (blk_cell BK690.out 1).trans rfl
                have hcz28_2 : wc.cell? ⟨gb690, 2, none⟩ = some (.int .i64 a0_2) := (blk_cell BK690.out 2).trans rfl
                have hcz28_3 : wc.cell? ⟨gb690, 3, none⟩ = some (.int .i64 a0_3) := (blk_cell BK690.out 3).trans rfl
                have hcz28_4 : wc.cell? ⟨gb690, 4, none⟩ = some (.int .i64 a0_4) := (blk_cell BK690.out 4).trans rfl
                have hcz28_5 : wc.cell? ⟨gb690, 5, none⟩ = some (.int .i64 a0_5) := (blk_cell BK690.out 5).trans rfl
                have hcz28_6 : wc.cell? ⟨gb690, 6, none⟩ = some (.int .i64 a0_6) := (blk_cell BK690.out 6).trans rfl
                have hcz28_7 : wc.cell? ⟨gb690, 7, none⟩ = some (.int .i64 a0_7) := (blk_cell BK690.out 7).trans rfl
                have hcz28_8 : wc.cell? ⟨gb690, 8, none⟩ = some (.int .i64 a0_8) := (blk_cell BK690.out 8).trans rfl
                have hcz28_9 : wc.cell? ⟨gb690, 9, none⟩ = some (.int .i64 a0_9) := (blk_cell BK690.out 9).trans rfl
                have hcz28_10 : wc.cell? ⟨gb690, 10, none⟩ = some (.string a0_10) := (blk_cell BK690.out 10).trans rfl
                have hcz28_11 : wc.cell? ⟨gb690, 11, none⟩ = some (.int .i64 a0_11) := (blk_cell BK690.out 11).trans rfl
                have hcz28_12 : wc.cell? ⟨gb690, 12, none⟩ = some (.slice A0_12 l0_12.length c0_12) := (blk_cell BK690.out 12).trans rfl
                have hfz28_0 := blk_frozen BK690.out 0
                have hfz28_1 := blk_frozen BK690.out 1
                have hfz28_2 := blk_frozen BK690.out 2
                have hfz28_3 := blk_frozen BK690.out 3
                have hfz28_4 := blk_frozen BK690.out 4
                have hfz28_5 := blk_frozen BK690.out 5
                have hfz28_6 := blk_frozen BK690.out 6
                have hfz28_7 := blk_frozen BK690.out 7
                have hfz28_8 := blk_frozen BK690.out 8
                have hfz28_9 := blk_frozen BK690.out 9
                have hfz28_10 := blk_frozen BK690.out 10
                have hfz28_11 := blk_frozen BK690.out 11
                have hfz28_12 := blk_frozen BK690.out 12
                go_wp2
                go_ret
                exact ⟨by first | rfl | (simp [errW_none, errW_some] <;> rfl) | (simp [*, errW_none, errW_some] <;> rfl), by repeat (first | (with_reducible first | exact HB.out | apply below_alloc | apply pw_below_drewN | apply below_drew1 | refine below_set ?_ GE690.out) | exact HB.out)⟩
            · rw [if_neg c25] at H
              have c25b0 : (a0_5 == 0 && (a0_6 == 0 && (a0_7 == 0 && (a0_8 == 0 && (a0_9 == 0 && (a0_10.toList == ([] : List UInt8))))))) = false := by simpa using c25
              have c25bE : (a0_5 == 0 && (a0_6 == 0 && (a0_7 == 0 && (a0_8 == 0 && (a0_9 == 0 && a0_10.toList.isEmpty))))) = false := by simp only [isEmpty_beq]; exact by simpa using c25
              (try (have c25b1 : decide (a0_5 = 0 && (a0_6 == 0 && (a0_7 == 0 && (a0_8 == 0 && (a0_9 == 0 && (a0_10.toList == ([] : List UInt8))))))) = false := by simpa using c25))
              (try (have c25b2 : (a0_5 == 0 && (a0_6 == 0 && (a0_7 == 0 && (a0_8 == 0 && (a0_9 == 0 && (a0_10.toList == ([] : List UInt8))))))) = false := by simpa using c25))
              (try (have c25b3 : ¬ (a0_5 = 0 && (a0_6 == 0 && (a0_7 == 0 && (a0_8 == 0 && (a0_9 == 0 && (a0_10.toList == ([] : List UInt8))))))) := by simpa using c25))
              clear c25
              obtain rfl := Option.some.inj H
              have hcz29_0 : wc.cell? ⟨gb690, 0, none⟩ = some (.int .i64 a0_0) := (blk_cell BK690.out 0).trans rfl
              have hcz29_1 : wc.cell? ⟨gb690, 1, none⟩ = some (.int .i64 a0_1) := (blk_cell BK690.out 1).trans rfl
              have hcz29_2 : wc.cell? ⟨gb690, 2, none⟩ = some (.int .i64 a0_2) := (blk_cell BK690.out 2).trans rfl
              have hcz29_3 : wc.cell? ⟨gb690, 3, none⟩ = some (.int .i64 a0_3) := (blk_cell BK690.out 3).trans rfl
              have hcz29_4 : wc.cell? ⟨gb690, 4, none⟩ = some (.int .i64 a0_4) := (blk_cell BK690.out 4).trans rfl
              have hcz29_5 : wc.cell? ⟨gb690, 5, none⟩ = some (.int .i64 a0_5) := (blk_cell BK690.out 5).trans rfl
              have hcz29_6 : wc.cell? ⟨gb690, 6, none⟩ = some (.int .i64 a0_6) := (blk_cell BK690.out 6).trans rfl
              have hcz29_7 : wc.cell? ⟨gb690, 7, none⟩ = some (.int .i64 a0_7) := (blk_cell BK690.out 7).trans rfl
              have hcz29_8 : wc.cell? ⟨gb690, 8, none⟩ = some (.int .i64 a0_8) := (blk_cell BK690.out 8).trans rfl
              have hcz29_9 : wc.cell? ⟨gb690, 9, none⟩ = some (.int .i64 a0_9) := (blk_cell BK690.out 9).trans rfl
              have hcz29_10 : wc.cell? ⟨gb690, 10, none⟩ = some (.string a0_10) := (blk_cell BK690.out 10).trans rfl
              have hcz29_11 : wc.cell? ⟨gb690, 11, none⟩ = some (.int .i64 a0_11) := (blk_cell BK690.out 11).trans rfl
              have hcz29_12 : wc.cell? ⟨gb690, 12, none⟩ = some (.slice A0_12 l0_12.length c0_12) := (blk_cell BK690.out 12).trans rfl
              have hfz29_0 := blk_frozen BK690.out 0
              have hfz29_1 := blk_frozen BK690.out 1
              have hfz29_2 := blk_frozen BK690.out 2
              have hfz29_3 := blk_frozen BK690.out 3
              have hfz29_4 := blk_frozen BK690.out 4
              have hfz29_5 := blk_frozen BK690.out 5
              have hfz29_6 := blk_frozen BK690.out 6
              have hfz29_7 := blk_frozen BK690.out 7
              have hfz29_8 := blk_frozen BK690.out 8
              have hfz29_9 := blk_frozen BK690.out 9
              have hfz29_10 := blk_frozen BK690.out 10
              have hfz29_11 := blk_frozen BK690.out 11
              have hfz29_12 := blk_frozen BK690.out 12
              go_wp2
              go_ret
              exact ⟨by first | rfl | (simp [errW_none, errW_some] <;> rfl) | (simp [*, errW_none, errW_some] <;> rfl), by repeat (first | (with_reducible first | exact HB.out | apply below_alloc | apply pw_below_drewN | apply below_drew1 | refine below_set ?_ GE690.out) | exact HB.out)⟩
          · rw [if_neg c24] at H
            have c24b0 : (a0_3 == 0 && (a0_4 == 0)) = false := by simpa using c24
            (try (have c24b1 : decide (a0_3 = 0 && (a0_4 == 0)) = false := by simpa using c24))
            (try (have c24b2 : (a0_3 == 0 && (a0_4 == 0)) = false := by simpa using c24))
            (try (have c24b3 : ¬ (a0_3 = 0 && (a0_4 == 0)) := by simpa using c24))
            clear c24
            obtain rfl := Option.some.inj H
            have hcz30_0 : wc.cell? ⟨gb690, 0, none⟩ = some (.int .i64 a0_0) := (blk_cell BK690.out 0).trans rfl
            have hcz30_1 : wc.cell? ⟨gb690, 1, none⟩ = some (.int .i64 a0_1) := (blk_cell BK690.out 1).trans rfl
            have hcz30_2 : wc.cell? ⟨gb690, 2, none⟩ = some (.int .i64 a0_2) := (blk_cell BK690.out 2).trans rfl
            have hcz30_3 : wc.cell? ⟨gb690, 3, none⟩ = some (.int .i64 a0_3) := (blk_cell BK690.out 3).trans rfl
            have hcz30_4 : wc.cell? ⟨gb690, 4, none⟩ = some (.int .i64 a0_4) := (blk_cell BK690.out 4).trans rfl
            have hcz30_5 : wc.cell? ⟨gb690, 5, none⟩ = some (.int .i64 a0_5) := (blk_cell BK690.out 5).trans rfl
            have hcz30_6 : wc.cell? ⟨gb690, 6, none⟩ = some (.int .i64 a0_6) := (blk_cell BK690.out 6).trans rfl
            have hcz30_7 : wc.cell? ⟨gb690, 7, none⟩ = some (.int .i64 a0_7) := (blk_cell BK690.out 7).trans rfl
            have hcz30_8 : wc.cell? ⟨gb690, 8, none⟩ = some (.int .i64 a0_8) := (blk_cell BK690.out 8).trans rfl
            have hcz30_9 : wc.cell? ⟨gb690, 9, none⟩ = some (.int .i64 a0_9) := (blk_cell BK690.out 9).trans rfl
            have hcz30_10 : wc.cell? ⟨gb690, 10, none⟩ = some (.string a0_10) := (blk_cell BK690.out 10).trans rfl
            have hcz30_11 : wc.cell? ⟨gb690, 11, none⟩ = some (.int .i64 a0_11) := (blk_cell BK690.out 11).trans rfl
            have hcz30_12 : wc.cell? ⟨gb690, 12, none⟩ = some (.slice A0_12 l0_12.length c0_12) := (blk_cell BK690.out 12).trans rfl
            have hfz30_0 := blk_frozen BK690.out 0
            have hfz30_1 := blk_frozen BK690.out 1
            have hfz30_2 := blk_frozen BK690.out 2
            have hfz30_3 := blk_frozen BK690.out 3
            have hfz30_4 := blk_frozen BK690.out 4
            have hfz30_5 := blk_frozen BK690.out 5
            have hfz30_6 := blk_frozen BK690.out 6
            have hfz30_7 := blk_frozen BK690.out 7
            have hfz30_8 := blk_frozen BK690.out 8
            have hfz30_9 := blk_frozen BK690.out 9
            have hfz30_10 := blk_frozen BK690.out 10
            have hfz30_11 := blk_frozen BK690.out 11
            have hfz30_12 := blk_frozen BK690.out 12
            go_wp2
            go_ret
            exact ⟨by first | rfl | (simp [errW_none, errW_some] <;> rfl) | (simp [*, errW_none, errW_some] <;> rfl), by repeat (first | (with_reducible first | exact HB.out | apply below_alloc | apply pw_below_drewN | apply below_drew1 | refine below_set ?_ GE690.out) | exact HB.out)⟩
        · rw [if_neg c23] at H
          have c23b0 : (a0_0 == 0) = false := beq_eq_false_iff_ne.mpr c23
          have c23b1 : (a0_0 != 0) = true := bne_iff_ne.mpr c23
          have HC31 := Aside0.mk H
          clear H
          have hcz32_0 : wc.cell? ⟨gb690, 0, none⟩ = some (.int .i64 a0_0) := (blk_cell BK690.out 0).trans rfl
          have hcz32_1 : wc.cell? ⟨gb690, 1, none⟩ = some (.int .i64 a0_1) := (blk_cell BK690.out 1).trans rfl
          have hcz32_2 : wc.cell? ⟨gb690, 2, none⟩ = some (.int .i64 a0_2) := (blk_cell BK690.out 2).trans rfl
          have hcz32_3 : wc.cell? ⟨gb690, 3, none⟩ = some (.int .i64 a0_3) := (blk_cell BK690.out 3).trans rfl
          have hcz32_4 : wc.cell? ⟨gb690, 4, none⟩ = some (.int .i64 a0_4) := (blk_cell BK690.out 4).trans rfl
          have hcz32_5 : wc.cell? ⟨gb690, 5, none⟩ = some (.int .i64 a0_5) := (blk_cell BK690.out 5).trans rfl
          have hcz32_6 : wc.cell? ⟨gb690, 6, none⟩ = some (.int .i64 a0_6) := (blk_cell BK690.out 6).trans rfl
          have hcz32_7 : wc.cell? ⟨gb690, 7, none⟩ = some (.int .i64 a0_7) := (blk_cell BK690.out 7).trans rfl
          have hcz32_8 : wc.cell? ⟨gb690, 8, none⟩ = some (.int .i64 a0_8) := (blk_cell BK690.out 8).trans rfl
          have hcz32_9 : wc.cell? ⟨gb690, 9, none⟩ = some (.int .i64 a0_9) := (blk_cell BK690.out 9).trans rfl
          have hcz32_10 : wc.cell? ⟨gb690, 10, none⟩ = some (.string a0_10) := (blk_cell BK690.out 10).trans rfl
          have hcz32_11 : wc.cell? ⟨gb690, 11, none⟩ = some (.int .i64 a0_11) := (blk_cell BK690.out 11).trans rfl
          have hcz32_12 : wc.cell? ⟨gb690, 12, none⟩ = some (.slice A0_12 l0_12.length c0_12) := (blk_cell BK690.out 12).trans rfl
          have hfz32_0 := blk_frozen BK690.out 0
          have hfz32_1 := blk_frozen BK690.out 1
          have hfz32_2 := blk_frozen BK690.out 2
          have hfz32_3 := blk_frozen BK690.out 3
          have hfz32_4 := blk_frozen BK690.out 4
          have hfz32_5 := blk_frozen BK690.out 5
          have hfz32_6 := blk_frozen BK690.out 6
          have hfz32_7 := blk_frozen BK690.out 7
          have hfz32_8 := blk_frozen BK690.out 8
          have hfz32_9 := blk_frozen BK690.out 9
          have hfz32_10 := blk_frozen BK690.out 10
          have hfz32_11 := blk_frozen BK690.out 11
          have hfz32_12 := blk_frozen BK690.out 12
          go_upto_if 27 with (fail)
          go_cut [27] (fun v27 wc => ∃ (kq : Nat) (x27_30 : Bool), v27 = .bool x27_30 ∧ Aside0 (instance_May.j1 kq a1 a0_0 x27_30 a0_0 a0_1 a0_2 a0_3 a0_4 a0_5 a0_6 a0_7 a0_8 a0_9 a0_10 a0_11 l0_12 = some r) ∧ Aside0 (kq ≤ kj2) ∧ Aside0 (wc.heap[gb690]? = some (.cells #[.int .i64 a0_0, .int .i64 a0_1, .int .i64 a0_2, .int .i64 a0_3, .int .i64 a0_4, .int .i64 a0_5, .int .i64 a0_6, .int .i64 a0_7, .int .i64 a0_8, .int .i64 a0_9, .string a0_10, .int .i64 a0_11, (.slice A0_12 l0_12.length c0_12)] 32 (0, 0))) ∧ Aside0 (Below w.heap.size w wc))
          case first =>
            have H := HC31.out
            clear HC31
            by_cases c33 : a0_0 = 1
            · rw [if_pos c33] at H
              have c33b0 : (a0_0 == 1) = true := beq_iff_eq.mpr c33
              have c33b1 : (a0_0 != 1) = false := bne_eq_false_iff_eq.mpr c33
              clear c33
              (first | rw [c33b0] | (simp only [i64_w, i32_w]; rw [c33b0]) | skip)
              have H' := Aside0.mk H
              clear H
              go_wp2
              go_meet
              case rel => exact ⟨_, ((a0_0 == 1)), (by first | rfl | (simp; done) | (simp [*]; done)), H', ⟨by have := HJ2.out; first | omega | exact Nat.le_refl _⟩, ⟨by (with_reducible repeat (first | refine blk_drewN ?_ _ | refine blk_drew ?_ | refine blk_alloc ?_ _)); exact BK690.out⟩, ⟨by repeat (first | (with_reducible first | exact HB.out | apply below_alloc | apply pw_below_drewN | apply below_drew1 | refine below_set ?_ GE690.out) | exact HB.out)⟩⟩
            · rw [if_neg c33] at H
              have c33b0 : (a0_0 == 1) = false := beq_eq_false_iff_ne.mpr c33
              have c33b1 : (a0_0 != 1) = true := bne_iff_ne.mpr c33
              (first | rw [c33b0] | (simp only [i64_w, i32_w]; rw [c33b0]) | skip)
              have H' := Aside0.mk H
              clear H
              go_wp2
              go_meet
              case rel => exact ⟨_, ((a0_0 == 2)), (by first | rfl | (simp; done) | (simp [*]; done)), H', ⟨by have := HJ2.out; first | omega | exact Nat.le_refl _⟩, ⟨by (with_reducible repeat (first | refine blk_drewN ?_ _ | refine blk_drew ?_ | refine blk_alloc ?_ _)); exact BK690.out⟩, ⟨by repeat (first | (with_reducible first | exact HB.out | apply below_alloc | apply pw_below_drewN | apply below_drew1 | refine below_set ?_ GE690.out) | exact HB.out)⟩⟩
          case rest =>
            clear HC31
            try clear c1
            try clear c2
            try clear p2
            try clear c3
            try clear c6
            try clear c8
            try clear c16
            try clear c22
            try clear c23
            try clear c23b0
            try clear c23b1
            try clear c24
            try clear c24b0
            try clear c24b1
            try clear c24b2
            try clear c25
            try clear c25b0
            try clear c25b1
            try clear c25b2
            try clear c26
            try clear c26b0
            try clear c26b1
            try clear c30
            try clear c33
            try clear c33b0
            try clear c33b1
            try clear hcz10_0
            try clear hcz10_1
            try clear hcz10_10
            try clear hcz10_11
            try clear hcz10_12
            try clear hcz10_2
            try clear hcz10_3
            try clear hcz10_4
            try clear hcz10_5
            try clear hcz10_6
            try clear hcz10_7
            try clear hcz10_8
            try clear hcz10_9
            try clear hcz12_0
            try clear hcz12_1
            try clear hcz12_10
            try clear hcz12_11
            try clear hcz12_12
            try clear hcz12_2
            try clear hcz12_3
            try clear hcz12_4
            try clear hcz12_5
            try clear hcz12_6
            try clear hcz12_7
            try clear hcz12_8
            try clear hcz12_9
            try clear hcz14_0
            try clear hcz14_1
            try clear hcz14_10
            try clear hcz14_11
            try clear hcz14_12
            try clear hcz14_2
            try clear hcz14_3
            try clear hcz14_4
            try clear hcz14_5
            try clear hcz14_6
            try clear hcz14_7
            try clear hcz14_8
            try clear hcz14_9
            try clear hcz16_0
            try clear hcz16_1
            try clear hcz16_10
            try clear hcz16_11
            try clear hcz16_12
            try clear hcz16_2
            try clear hcz16_3
            try clear hcz16_4
            try clear hcz16_5
            try clear hcz16_6
            try clear hcz16_7
            try clear hcz16_8
            try clear hcz16_9
            try clear hcz18_0
            try clear hcz18_1
            try clear hcz18_10
            try clear hcz18_11
            try clear hcz18_12
            try clear hcz18_2
            try clear hcz18_3
            try clear hcz18_4
            try clear hcz18_5
            try clear hcz18_6
            try clear hcz18_7
            try clear hcz18_8
            try clear hcz18_9
            try clear hcz20_0
            try clear hcz20_1
            try clear hcz20_10
            try clear hcz20_11
            try clear hcz20_12
            try clear hcz20_2
            try clear hcz20_3
            try clear hcz20_4
            try clear hcz20_5
            try clear hcz20_6
            try clear hcz20_7
            try clear hcz20_8
            try clear hcz20_9
            try clear hcz27_0
            try clear hcz27_1
            try clear hcz27_10
            try clear hcz27_11
            try clear hcz27_12
            try clear hcz27_2
            try clear hcz27_3
            try clear hcz27_4
            try clear hcz27_5
            try clear hcz27_6
            try clear hcz27_7
            try clear hcz27_8
            try clear hcz27_9
            try clear hcz28_0
            try clear hcz28_1
            try clear hcz28_10
            try clear hcz28_11
            try clear hcz28_12
            try clear hcz28_2
            try clear hcz28_3
            try clear hcz28_4
            try clear hcz28_5
            try clear hcz28_6
            try clear hcz28_7
            try clear hcz28_8
            try clear hcz28_9
            try clear hcz29_0
            try clear hcz29_1
            try clear hcz29_10
            try clear hcz29_11
            try clear hcz29_12
            try clear hcz29_2
            try clear hcz29_3
            try clear hcz29_4
            try clear hcz29_5
            try clear hcz29_6
            try clear hcz29_7
            try clear hcz29_8
            try clear hcz29_9
            try clear hcz30_0
            try clear hcz30_1
            try clear hcz30_10
            try clear hcz30_11
            try clear hcz30_12
            try clear hcz30_2
            try clear hcz30_3
            try clear hcz30_4
            try clear hcz30_5
            try clear hcz30_6
            try clear hcz30_7
            try clear hcz30_8
            try clear hcz30_9
            try clear hcz32_0
            try clear hcz32_1
            try clear hcz32_10
            try clear hcz32_11
            try clear hcz32_12
            try clear hcz32_2
            try clear hcz32_3
            try clear hcz32_4
            try clear hcz32_5
            try clear hcz32_6
            try clear hcz32_7
            try clear hcz32_8
            try clear hcz32_9
            try clear hfz10_0
            try clear hfz10_1
            try clear hfz10_10
            try clear hfz10_11
            try clear hfz10_12
            try clear hfz10_2
            try clear hfz10_3
            try clear hfz10_4
            try clear hfz10_5
            try clear hfz10_6
            try clear hfz10_7
            try clear hfz10_8
            try clear hfz10_9
            try clear hfz12_0
            try clear hfz12_1
            try clear hfz12_10
            try clear hfz12_11
            try clear hfz12_12
            try clear hfz12_2
            try clear hfz12_3
            try clear hfz12_4
            try clear hfz12_5
            try clear hfz12_6
            try clear hfz12_7
            try clear hfz12_8
            try clear hfz12_9
            try clear hfz14_0
            try clear hfz14_1
            try clear hfz14_10
            try clear hfz14_11
            try clear hfz14_12
            try clear hfz14_2
            try clear hfz14_3
            try clear hfz14_4
            try clear hfz14_5
            try clear hfz14_6
            try clear hfz14_7
            try clear hfz14_8
            try clear hfz14_9
            try clear hfz16_0
            try clear hfz16_1
            try clear hfz16_10
            try clear hfz16_11
            try clear hfz16_12
            try clear hfz16_2
            try clear hfz16_3
            try clear hfz16_4
            try clear hfz16_5
            try clear hfz16_6
            try clear hfz16_7
            try clear hfz16_8
            try clear hfz16_9
            try clear hfz18_0
            try clear hfz18_1
            try clear hfz18_10
            try clear hfz18_11
            try clear hfz18_12
            try clear hfz18_2
            try clear hfz18_3
            try clear hfz18_4
            try clear hfz18_5
            try clear hfz18_6
            try clear hfz18_7
            try clear hfz18_8
            try clear hfz18_9
            try clear hfz20_0
            try clear hfz20_1
            try clear hfz20_10
            try clear hfz20_11
            try clear hfz20_12
            try clear hfz20_2
            try clear hfz20_3
            try clear hfz20_4
            try clear hfz20_5
            try clear hfz20_6
            try clear hfz20_7
            try clear hfz20_8
            try clear hfz20_9
            try clear hfz27_0
            try clear hfz27_1
            try clear hfz27_10
            try clear hfz27_11
            try clear hfz27_12
            try clear hfz27_2
            try clear hfz27_3
            try clear hfz27_4
            try clear hfz27_5
            try clear hfz27_6
            try clear hfz27_7
            try clear hfz27_8
            try clear hfz27_9
            try clear hfz28_0
            try clear hfz28_1
            try clear hfz28_10
            try clear hfz28_11
            try clear hfz28_12
            try clear hfz28_2
            try clear hfz28_3
            try clear hfz28_4
            try clear hfz28_5
            try clear hfz28_6
            try clear hfz28_7
            try clear hfz28_8
            try clear hfz28_9
            try clear hfz29_0
            try clear hfz29_1
            try clear hfz29_10
            try clear hfz29_11
            try clear hfz29_12
            try clear hfz29_2
            try clear hfz29_3
            try clear hfz29_4
            try clear hfz29_5
            try clear hfz29_6
            try clear hfz29_7
            try clear hfz29_8
            try clear hfz29_9
            try clear hfz30_0
            try clear hfz30_1
            try clear hfz30_10
            try clear hfz30_11
            try clear hfz30_12
            try clear hfz30_2
            try clear hfz30_3
            try clear hfz30_4
            try clear hfz30_5
            try clear hfz30_6
            try clear hfz30_7
            try clear hfz30_8
            try clear hfz30_9
            try clear hfz32_0
            try clear hfz32_1
            try clear hfz32_10
            try clear hfz32_11
            try clear hfz32_12
            try clear hfz32_2
            try clear hfz32_3
            try clear hfz32_4
            try clear hfz32_5
            try clear hfz32_6
            try clear hfz32_7
            try clear hfz32_8
            try clear hfz32_9
            try clear p2
            obtain ⟨kq, x27_30, rfl, HA, HJ30, BK690, HB⟩ := hcut
            cases kq with
            | zero => exact absurd HA.out (by simp [instance_May.j1])
            | succ kj30 =>
              have H := HA.out
              clear HA
              simp only [instance_May.j1] at H
              by_cases c34 : x27_30 = true
              · subst c34
                have H1 : ((instance_good.f a0_3 a0_4).bind fun t696 => (if t696 = true then ((command_May.f a0_5 a0_6 a0_7 a0_8 a0_9 a0_10).bind fun t697 => (if t697 = true then ((attr_May.f kj30 a0_11 l0_12 a1).bind fun t698 => (some t698)) else (some false))) else (some false))) = some r := by rw [if_pos rfl] at H; exact H
                clear H
                have H := H1
                clear H1
                replace H := Option.bind_eq_some_iff.mp H
                obtain ⟨t696, A350, H⟩ := H
                replace H : (if t696 = true then ((command_May.f a0_5 a0_6 a0_7 a0_8 a0_9 a0_10).bind fun t697 => (if t697 = true then ((attr_May.f kj30 a0_11 l0_12 a1).bind fun t698 => (some t698)) else (some false))) else (some false)) = some r := H
                have A35 := Aside0.mk A350
                clear A350
                by_cases c36 : t696 = true
                · subst c36
                  have H1 : ((command_May.f a0_5 a0_6 a0_7 a0_8 a0_9 a0_10).bind fun t697 => (if t697 = true then ((attr_May.f kj30 a0_11 l0_12 a1).bind fun t698 => (some t698)) else (some false))) = some r := by rw [if_pos rfl] at H; exact H
                  clear H
                  have H := H1
                  clear H1
                  replace H := Option.bind_eq_some_iff.mp H
                  obtain ⟨t697, A370, H⟩ := H
                  replace H : (if t697 = true then ((attr_May.f kj30 a0_11 l0_12 a1).bind fun t698 => (some t698)) else (some false)) = some r := H
                  have A37 := Aside0.mk A370
                  clear A370
                  by_cases c38 : t697 = true
                  · subst c38
                    have H1 : ((attr_May.f kj30 a0_11 l0_12 a1).bind fun t698 => (some t698)) = some r := by rw [if_pos rfl] at H; exact H
                    clear H
                    have H := H1
                    clear H1
                    replace H := Option.bind_eq_some_iff.mp H
                    obtain ⟨t698, A390, H⟩ := H
                    replace H : (some t698) = some r := H
                    have A39 := Aside0.mk A390
                    clear A390
                    obtain rfl := Option.some.inj H
                    have hcz40_0 : wc.cell? ⟨gb690, 0, none⟩ = some (.int .i64 a0_0) := (blk_cell BK690.out 0).trans rfl
                    have hcz40_1 : wc.cell? ⟨gb690, 1, none⟩ = some (.int .i64 a0_1) := (blk_cell BK690.out 1).trans rfl
                    have hcz40_2 : wc.cell? ⟨gb690, 2, none⟩ = some (.int .i64 a0_2) := (blk_cell BK690.out 2).trans rfl
                    have hcz40_3 : wc.cell? ⟨gb690, 3, none⟩ = some (.int .i64 a0_3) := (blk_cell BK690.out 3).trans rfl
                    have hcz40_4 : wc.cell? ⟨gb690, 4, none⟩ = some (.int .i64 a0_4) := (blk_cell BK690.out 4).trans rfl
                    have hcz40_5 : wc.cell? ⟨gb690, 5, none⟩ = some (.int .i64 a0_5) := (blk_cell BK690.out 5).trans rfl
                    have hcz40_6 : wc.cell? ⟨gb690, 6, none⟩ = some (.int .i64 a0_6) := (blk_cell BK690.out 6).trans rfl
                    have hcz40_7 : wc.cell? ⟨gb690, 7, none⟩ = some (.int .i64 a0_7) := (blk_cell BK690.out 7).trans rfl
                    have hcz40_8 : wc.cell? ⟨gb690, 8, none⟩ = some (.int .i64 a0_8) := (blk_cell BK690.out 8).trans rfl
                    have hcz40_9 : wc.cell? ⟨gb690, 9, none⟩ = some (.int .i64 a0_9) := (blk_cell BK690.out 9).trans rfl
                    have hcz40_10 : wc.cell? ⟨gb690, 10, none⟩ = some (.string a0_10) := (blk_cell BK690.out 10).trans rfl
                    have hcz40_11 : wc.cell? ⟨gb690, 11, none⟩ = some (.int .i64 a0_11) := (blk_cell BK690.out 11).trans rfl
                    have hcz40_12 : wc.cell? ⟨gb690, 12, none⟩ = some (.slice A0_12 l0_12.length c0_12) := (blk_cell BK690.out 12).trans rfl
                    have hfz40_0 := blk_frozen BK690.out 0
                    have hfz40_1 := blk_frozen BK690.out 1
                    have hfz40_2 := blk_frozen BK690.out 2
                    have hfz40_3 := blk_frozen BK690.out 3
                    have hfz40_4 := blk_frozen BK690.out 4
                    have hfz40_5 := blk_frozen BK690.out 5
                    have hfz40_6 := blk_frozen BK690.out 6
                    have hfz40_7 := blk_frozen BK690.out 7
                    have hfz40_8 := blk_frozen BK690.out 8
                    have hfz40_9 := blk_frozen BK690.out 9
                    have hfz40_10 := blk_frozen BK690.out 10
                    have hfz40_11 := blk_frozen BK690.out 11
                    have hfz40_12 := blk_frozen BK690.out 12
                    go_wp2_with (first | ((with_reducible refine gate_callee (f := 31) rfl ?_); refine goesL_ (some 57) rfl rfl Try.func31 (by kernel_rfl) rfl #[.agg #[.int .i64 a0_3, .int .i64 a0_4]] rfl (by (try simp only [List.map_toArray, List.map_cons, List.map_nil]); first | done | rfl | (simp only [List.length_drop, List.length_take]; rfl)) ?_; (with_reducible refine (instance_good.calls a0_3 a0_4 true _ A35.out).mono ?_); rintro e w41 ⟨rfl, hb⟩; refine ⟨_, rfl, ?_⟩; have n0_ := Aside0.mk (blk_below (g := gb690) (by (with_reducible repeat (first | refine blk_drewN ?_ _ | refine blk_drew ?_ | refine blk_alloc ?_ _)); exact BK690.out) hb); have n1_ := Aside0.mk (below_step (by repeat (first | (with_reducible first | exact HB.out | apply below_alloc | apply pw_below_drewN | apply below_drew1 | refine below_set ?_ GE690.out) | exact HB.out)) hb); clear BK690; clear HB; have BK690 := n0_; have HB := n1_; clear n0_ n1_; (try clear hb); (try clear hb2); (try clear hk); (try clear hi); have hcz42_0 : w41.cell? ⟨gb690, 0, none⟩ = some (.int .i64 a0_0) := (blk_cell BK690.out 0).trans rfl; have hcz42_1 : w41.cell? ⟨gb690, 1, none⟩ = some (.int .i64 a0_1) := (blk_cell BK690.out 1).trans rfl; have hcz42_2 : w41.cell? ⟨gb690, 2, none⟩ = some (.int .i64 a0_2) := (blk_cell BK690.out 2).trans rfl; have hcz42_3 : w41.cell? ⟨gb690, 3, none⟩ = some (.int .i64 a0_3) := (blk_cell BK690.out 3).trans rfl; have hcz42_4 : w41.cell? ⟨gb690, 4, none⟩ = some (.int .i64 a0_4) := (blk_cell BK690.out 4).trans rfl; have hcz42_5 : w41.cell? ⟨gb690, 5, none⟩ = some (.int .i64 a0_5) := (blk_cell BK690.out 5).trans rfl; have hcz42_6 : w41.cell? ⟨gb690, 6, none⟩ = some (.int .i64 a0_6) := (blk_cell BK690.out 6).trans rfl; have hcz42_7 : w41.cell? ⟨gb690, 7, none⟩ = some (.int .i64 a0_7) := (blk_cell BK690.out 7).trans rfl; have hcz42_8 : w41.cell? ⟨gb690, 8, none⟩ = some (.int .i64 a0_8) := (blk_cell BK690.out 8).trans rfl; have hcz42_9 : w41.cell? ⟨gb690, 9, none⟩ = some (.int .i64 a0_9) := (blk_cell BK690.out 9).trans rfl; have hcz42_10 : w41.cell? ⟨gb690, 10, none⟩ = some (.string a0_10) := (blk_cell BK690.out 10).trans rfl; have hcz42_11 : w41.cell? ⟨gb690, 11, none⟩ = some (.int .i64 a0_11) := (blk_cell BK690.out 11).trans rfl; have hcz42_12 : w41.cell? ⟨gb690, 12, none⟩ = some (.slice A0_12 l0_12.length c0_12) := (blk_cell BK690.out 12).trans rfl; have hfz42_0 := blk_frozen BK690.out 0; have hfz42_1 := blk_frozen BK690.out 1; have hfz42_2 := blk_frozen BK690.out 2; have hfz42_3 := blk_frozen BK690.out 3; have hfz42_4 := blk_frozen BK690.out 4; have hfz42_5 := blk_frozen BK690.out 5; have hfz42_6 := blk_frozen BK690.out 6; have hfz42_7 := blk_frozen BK690.out 7; have hfz42_8 := blk_frozen BK690.out 8; have hfz42_9 := blk_frozen BK690.out 9; have hfz42_10 := blk_frozen BK690.out 10; have hfz42_11 := blk_frozen BK690.out 11; have hfz42_12 := blk_frozen BK690.out 12) | ((with_reducible refine gate_callee (f := 32) rfl ?_); refine goesL_ (some 61) rfl rfl Try.func32 (by kernel_rfl) rfl #[.agg #[.int .i64 a0_5, .int .i64 a0_6, .int .i64 a0_7, .int .i64 a0_8, .int .i64 a0_9, .string a0_10]] rfl (by (try simp only [List.map_toArray, List.map_cons, List.map_nil]); first | done | rfl | (simp only [List.length_drop, List.length_take]; rfl)) ?_; (with_reducible refine (command_May.calls a0_5 a0_6 a0_7 a0_8 a0_9 a0_10 true _ A37.out).mono ?_); rintro e w43 ⟨rfl, hb⟩; refine ⟨_, rfl, ?_⟩; have n0_ := Aside0.mk (blk_below (g := gb690) (by (with_reducible repeat (first | refine blk_drewN ?_ _ | refine blk_drew ?_ | refine blk_alloc ?_ _)); exact BK690.out) hb); have n1_ := Aside0.mk (below_step (by repeat (first | (with_reducible first | exact HB.out | apply below_alloc | apply pw_below_drewN | apply below_drew1 | refine below_set ?_ GE690.out) | exact HB.out)) hb); clear BK690; clear HB; have BK690 := n0_; have HB := n1_; clear n0_ n1_; (try clear hb); (try clear hb2); (try clear hk); (try clear hi); have hcz44_0 : w43.cell? ⟨gb690, 0, none⟩ = some (.int .i64 a0_0) := (blk_cell BK690.out 0).trans rfl; have hcz44_1 : w43.cell? ⟨gb690, 1, none⟩ = some (.int .i64 a0_1) := (blk_cell BK690.out 1).trans rfl; have hcz44_2 : w43.cell? ⟨gb690, 2, none⟩ = some (.int .i64 a0_2) := (blk_cell BK690.out 2).trans rfl; have hcz44_3 : w43.cell? ⟨gb690, 3, none⟩ = some (.int .i64 a0_3) := (blk_cell BK690.out 3).trans rfl; have hcz44_4 : w43.cell? ⟨gb690, 4, none⟩ = some (.int .i64 a0_4) := (blk_cell BK690.out 4).trans rfl; have hcz44_5 : w43.cell? ⟨gb690, 5, none⟩ = some (.int .i64 a0_5) := (blk_cell BK690.out 5).trans rfl; have hcz44_6 : w43.cell? ⟨gb690, 6, none⟩ = some (.int .i64 a0_6) := (blk_cell BK690.out 6).trans rfl; have hcz44_7 : w43.cell? ⟨gb690, 7, none⟩ = some (.int .i64 a0_7) := (blk_cell BK690.out 7).trans rfl; have hcz44_8 : w43.cell? ⟨gb690, 8, none⟩ = some (.int .i64 a0_8) := (blk_cell BK690.out 8).trans rfl; have hcz44_9 : w43.cell? ⟨gb690, 9, none⟩ = some (.int .i64 a0_9) := (blk_cell BK690.out 9).trans rfl; have hcz44_10 : w43.cell? ⟨gb690, 10, none⟩ = some (.string a0_10) := (blk_cell BK690.out 10).trans rfl; have hcz44_11 : w43.cell? ⟨gb690, 11, none⟩ = some (.int .i64 a0_11) := (blk_cell BK690.out 11).trans rfl; have hcz44_12 : w43.cell? ⟨gb690, 12, none⟩ = some (.slice A0_12 l0_12.length c0_12) := (blk_cell BK690.out 12).trans rfl; have hfz44_0 := blk_frozen BK690.out 0; have hfz44_1 := blk_frozen BK690.out 1; have hfz44_2 := blk_frozen BK690.out 2; have hfz44_3 := blk_frozen BK690.out 3; have hfz44_4 := blk_frozen BK690.out 4; have hfz44_5 := blk_frozen BK690.out 5; have hfz44_6 := blk_frozen BK690.out 6; have hfz44_7 := blk_frozen BK690.out 7; have hfz44_8 := blk_frozen BK690.out 8; have hfz44_9 := blk_frozen BK690.out 9; have hfz44_10 := blk_frozen BK690.out 10; have hfz44_11 := blk_frozen BK690.out 11; have hfz44_12 := blk_frozen BK690.out 12) | (go_at_call 33; (with_reducible refine (attr_May.calls kj30 a0_11 _ _ l0_12 a1 t698 _ ?side1 ?side2 A39.out).mono ?_); (case side1 => repeat (first | exact (Kd.C_below HR0_12.out HB.out) | (with_reducible refine Kd.C_alloc ?_ _) | (with_reducible refine Kd.C_drewN ?_ _) | (with_reducible refine Kd.C_drew ?_))); (case side2 => exact HC0_12.out); rintro e w45 ⟨rfl, hb⟩; have n0_ := Aside0.mk (blk_below (g := gb690) (by (with_reducible repeat (first | refine blk_drewN ?_ _ | refine blk_drew ?_ | refine blk_alloc ?_ _)); exact BK690.out) hb); have n1_ := Aside0.mk (below_step (by repeat (first | (with_reducible first | exact HB.out | apply below_alloc | apply pw_below_drewN | apply below_drew1 | refine below_set ?_ GE690.out) | exact HB.out)) hb); clear BK690; clear HB; have BK690 := n0_; have HB := n1_; clear n0_ n1_; (try clear hb); (try clear hb2); (try clear hk); (try clear hi)))
                    go_ret
                    exact ⟨by first | rfl | (simp [errW_none, errW_some] <;> rfl) | (simp [*, errW_none, errW_some] <;> rfl), by repeat (first | (with_reducible first | exact HB.out | apply below_alloc | apply pw_below_drewN | apply below_drew1 | refine below_set ?_ GE690.out) | exact HB.out)⟩
                  · replace c38 := Bool.eq_false_iff.mpr c38
                    subst c38
                    have H1 : (some false) = some r := by rw [if_neg (show ¬ (false = true) by decide)] at H; exact H
                    clear H
                    have H := H1
                    clear H1
                    obtain rfl := Option.some.inj H
                    have hcz46_0 : wc.cell? ⟨gb690, 0, none⟩ = some (.int .i64 a0_0) := (blk_cell BK690.out 0).trans rfl
                    have hcz46_1 : wc.cell? ⟨gb690, 1, none⟩ = some (.int .i64 a0_1) := (blk_cell BK690.out 1).trans rfl
                    have hcz46_2 : wc.cell? ⟨gb690, 2, none⟩ = some (.int .i64 a0_2) := (blk_cell BK690.out 2).trans rfl
                    have hcz46_3 : wc.cell? ⟨gb690, 3, none⟩ = some (.int .i64 a0_3) := (blk_cell BK690.out 3).trans rfl
                    have hcz46_4 : wc.cell? ⟨gb690, 4, none⟩ = some (.int .i64 a0_4) := (blk_cell BK690.out 4).trans rfl
                    have hcz46_5 : wc.cell? ⟨gb690, 5, none⟩ = some (.int .i64 a0_5) := (blk_cell BK690.out 5).trans rfl
                    have hcz46_6 : wc.cell? ⟨gb690, 6, none⟩ = some (.int .i64 a0_6) := (blk_cell BK690.out 6).trans rfl
                    have hcz46_7 : wc.cell? ⟨gb690, 7, none⟩ = some (.int .i64 a0_7) := (blk_cell BK690.out 7).trans rfl
                    have hcz46_8 : wc.cell? ⟨gb690, 8, none⟩ = some (.int .i64 a0_8) := (blk_cell BK690.out 8).trans rfl
                    have hcz46_9 : wc.cell? ⟨gb690, 9, none⟩ = some (.int .i64 a0_9) := (blk_cell BK690.out 9).trans rfl
                    have hcz46_10 : wc.cell? ⟨gb690, 10, none⟩ = some (.string a0_10) := (blk_cell BK690.out 10).trans rfl
                    have hcz46_11 : wc.cell? ⟨gb690, 11, none⟩ = some (.int .i64 a0_11) := (blk_cell BK690.out 11).trans rfl
                    have hcz46_12 : wc.cell? ⟨gb690, 12, none⟩ = some (.slice A0_12 l0_12.length c0_12) := (blk_cell BK690.out 12).trans rfl
                    have hfz46_0 := blk_frozen BK690.out 0
                    have hfz46_1 := blk_frozen BK690.out 1
                    have hfz46_2 := blk_frozen BK690.out 2
                    have hfz46_3 := blk_frozen BK690.out 3
                    have hfz46_4 := blk_frozen BK690.out 4
                    have hfz46_5 := blk_frozen BK690.out 5
                    have hfz46_6 := blk_frozen BK690.out 6
                    have hfz46_7 := blk_frozen BK690.out 7
                    have hfz46_8 := blk_frozen BK690.out 8
                    have hfz46_9 := blk_frozen BK690.out 9
                    have hfz46_10 := blk_frozen BK690.out 10
                    have hfz46_11 := blk_frozen BK690.out 11
                    have hfz46_12 := blk_frozen BK690.out 12
                    go_wp2_with (first | ((with_reducible refine gate_callee (f := 31) rfl ?_); refine goesL_ (some 57) rfl rfl Try.func31 (by kernel_rfl) rfl #[.agg #[.int .i64 a0_3, .int .i64 a0_4]] rfl (by (try simp only [List.map_toArray, List.map_cons, List.map_nil]); first | done | rfl | (simp only [List.length_drop, List.length_take]; rfl)) ?_; (with_reducible refine (instance_good.calls a0_3 a0_4 true _ A35.out).mono ?_); rintro e w47 ⟨rfl, hb⟩; refine ⟨_, rfl, ?_⟩; have n0_ := Aside0.mk (blk_below (g := gb690) (by (with_reducible repeat (first | refine blk_drewN ?_ _ | refine blk_drew ?_ | refine blk_alloc ?_ _)); exact BK690.out) hb); have n1_ := Aside0.mk (below_step (by repeat (first | (with_reducible first | exact HB.out | apply below_alloc | apply pw_below_drewN | apply below_drew1 | refine below_set ?_ GE690.out) | exact HB.out)) hb); clear BK690; clear HB; have BK690 := n0_; have HB := n1_; clear n0_ n1_; (try clear hb); (try clear hb2); (try clear hk); (try clear hi); have hcz48_0 : w47.cell? ⟨gb690, 0, none⟩ = some (.int .i64 a0_0) := (blk_cell BK690.out 0).trans rfl; have hcz48_1 : w47.cell? ⟨gb690, 1, none⟩ = some (.int .i64 a0_1) := (blk_cell BK690.out 1).trans rfl; have hcz48_2 : w47.cell? ⟨gb690, 2, none⟩ = some (.int .i64 a0_2) := (blk_cell BK690.out 2).trans rfl; have hcz48_3 : w47.cell? ⟨gb690, 3, none⟩ = some (.int .i64 a0_3) := (blk_cell BK690.out 3).trans rfl; have hcz48_4 : w47.cell? ⟨gb690, 4, none⟩ = some (.int .i64 a0_4) := (blk_cell BK690.out 4).trans rfl; have hcz48_5 : w47.cell? ⟨gb690, 5, none⟩ = some (.int .i64 a0_5) := (blk_cell BK690.out 5).trans rfl; have hcz48_6 : w47.cell? ⟨gb690, 6, none⟩ = some (.int .i64 a0_6) := (blk_cell BK690.out 6).trans rfl; have hcz48_7 : w47.cell? ⟨gb690, 7, none⟩ = some (.int .i64 a0_7) := (blk_cell BK690.out 7).trans rfl; have hcz48_8 : w47.cell? ⟨gb690, 8, none⟩ = some (.int .i64 a0_8) := (blk_cell BK690.out 8).trans rfl; have hcz48_9 : w47.cell? ⟨gb690, 9, none⟩ = some (.int .i64 a0_9) := (blk_cell BK690.out 9).trans rfl; have hcz48_10 : w47.cell? ⟨gb690, 10, none⟩ = some (.string a0_10) := (blk_cell BK690.out 10).trans rfl; have hcz48_11 : w47.cell? ⟨gb690, 11, none⟩ = some (.int .i64 a0_11) := (blk_cell BK690.out 11).trans rfl; have hcz48_12 : w47.cell? ⟨gb690, 12, none⟩ = some (.slice A0_12 l0_12.length c0_12) := (blk_cell BK690.out 12).trans rfl; have hfz48_0 := blk_frozen BK690.out 0; have hfz48_1 := blk_frozen BK690.out 1; have hfz48_2 := blk_frozen BK690.out 2; have hfz48_3 := blk_frozen BK690.out 3; have hfz48_4 := blk_frozen BK690.out 4; have hfz48_5 := blk_frozen BK690.out 5; have hfz48_6 := blk_frozen BK690.out 6; have hfz48_7 := blk_frozen BK690.out 7; have hfz48_8 := blk_frozen BK690.out 8; have hfz48_9 := blk_frozen BK690.out 9; have hfz48_10 := blk_frozen BK690.out 10; have hfz48_11 := blk_frozen BK690.out 11; have hfz48_12 := blk_frozen BK690.out 12) | ((with_reducible refine gate_callee (f := 32) rfl ?_); refine goesL_ (some 61) rfl rfl Try.func32 (by kernel_rfl) rfl #[.agg #[.int .i64 a0_5, .int .i64 a0_6, .int .i64 a0_7, .int .i64 a0_8, .int .i64 a0_9, .string a0_10]] rfl (by (try simp only [List.map_toArray, List.map_cons, List.map_nil]); first | done | rfl | (simp only [List.length_drop, List.length_take]; rfl)) ?_; (with_reducible refine (command_May.calls a0_5 a0_6 a0_7 a0_8 a0_9 a0_10 false _ A37.out).mono ?_); rintro e w49 ⟨rfl, hb⟩; refine ⟨_, rfl, ?_⟩; have n0_ := Aside0.mk (blk_below (g := gb690) (by (with_reducible repeat (first | refine blk_drewN ?_ _ | refine blk_drew ?_ | refine blk_alloc ?_ _)); exact BK690.out) hb); have n1_ := Aside0.mk (below_step (by repeat (first | (with_reducible first | exact HB.out | apply below_alloc | apply pw_below_drewN | apply below_drew1 | refine below_set ?_ GE690.out) | exact HB.out)) hb); clear BK690; clear HB; have BK690 := n0_; have HB := n1_; clear n0_ n1_; (try clear hb); (try clear hb2); (try clear hk); (try clear hi)))
                    go_ret
                    exact ⟨by first | rfl | (simp [errW_none, errW_some] <;> rfl) | (simp [*, errW_none, errW_some] <;> rfl), by repeat (first | (with_reducible first | exact HB.out | apply below_alloc | apply pw_below_drewN | apply below_drew1 | refine below_set ?_ GE690.out) | exact HB.out)⟩
                · replace c36 := Bool.eq_false_iff.mpr c36
                  subst c36
                  have H1 : (some false) = some r := by rw [if_neg (show ¬ (false = true) by decide)] at H; exact H
                  clear H
                  have H := H1
                  clear H1
                  obtain rfl := Option.some.inj H
                  have hcz50_0 : wc.cell? ⟨gb690, 0, none⟩ = some (.int .i64 a0_0) := (blk_cell BK690.out 0).trans rfl
                  have hcz50_1 : wc.cell? ⟨gb690, 1, none⟩ = some (.int .i64 a0_1) := (blk_cell BK690.out 1).trans rfl
                  have hcz50_2 : wc.cell? ⟨gb690, 2, none⟩ = some (.int .i64 a0_2) := (blk_cell BK690.out 2).trans rfl
                  have hcz50_3 : wc.cell? ⟨gb690, 3, none⟩ = some (.int .i64 a0_3) := (blk_cell BK690.out 3).trans rfl
                  have hcz50_4 : wc.cell? ⟨gb690, 4, none⟩ = some (.int .i64 a0_4) := (blk_cell BK690.out 4).trans rfl
                  have hcz50_5 : wc.cell? ⟨gb690, 5, none⟩ = some (.int .i64 a0_5) := (blk_cell BK690.out 5).trans rfl
                  have hcz50_6 : wc.cell? ⟨gb690, 6, none⟩ = some (.int .i64 a0_6) := (blk_cell BK690.out 6).trans rfl
                  have hcz50_7 : wc.cell? ⟨gb690, 7, none⟩ = some (.int .i64 a0_7) := (blk_cell BK690.out 7).trans rfl
                  have hcz50_8 : wc.cell? ⟨gb690, 8, none⟩ = some (.int .i64 a0_8) := (blk_cell BK690.out 8).trans rfl
                  have hcz50_9 : wc.cell? ⟨gb690, 9, none⟩ = some (.int .i64 a0_9) := (blk_cell BK690.out 9).trans rfl
                  have hcz50_10 : wc.cell? ⟨gb690, 10, none⟩ = some (.string a0_10) := (blk_cell BK690.out 10).trans rfl
                  have hcz50_11 : wc.cell? ⟨gb690, 11, none⟩ = some (.int .i64 a0_11) := (blk_cell BK690.out 11).trans rfl
                  have hcz50_12 : wc.cell? ⟨gb690, 12, none⟩ = some (.slice A0_12 l0_12.length c0_12) := (blk_cell BK690.out 12).trans rfl
                  have hfz50_0 := blk_frozen BK690.out 0
                  have hfz50_1 := blk_frozen BK690.out 1
                  have hfz50_2 := blk_frozen BK690.out 2
                  have hfz50_3 := blk_frozen BK690.out 3
                  have hfz50_4 := blk_frozen BK690.out 4
                  have hfz50_5 := blk_frozen BK690.out 5
                  have hfz50_6 := blk_frozen BK690.out 6
                  have hfz50_7 := blk_frozen BK690.out 7
                  have hfz50_8 := blk_frozen BK690.out 8
                  have hfz50_9 := blk_frozen BK690.out 9
                  have hfz50_10 := blk_frozen BK690.out 10
                  have hfz50_11 := blk_frozen BK690.out 11
                  have hfz50_12 := blk_frozen BK690.out 12
                  go_wp2_with (first | ((with_reducible refine gate_callee (f := 31) rfl ?_); refine goesL_ (some 57) rfl rfl Try.func31 (by kernel_rfl) rfl #[.agg #[.int .i64 a0_3, .int .i64 a0_4]] rfl (by (try simp only [List.map_toArray, List.map_cons, List.map_nil]); first | done | rfl | (simp only [List.length_drop, List.length_take]; rfl)) ?_; (with_reducible refine (instance_good.calls a0_3 a0_4 false _ A35.out).mono ?_); rintro e w51 ⟨rfl, hb⟩; refine ⟨_, rfl, ?_⟩; have n0_ := Aside0.mk (blk_below (g := gb690) (by (with_reducible repeat (first | refine blk_drewN ?_ _ | refine blk_drew ?_ | refine blk_alloc ?_ _)); exact BK690.out) hb); have n1_ := Aside0.mk (below_step (by repeat (first | (with_reducible first | exact HB.out | apply below_alloc | apply pw_below_drewN | apply below_drew1 | refine below_set ?_ GE690.out) | exact HB.out)) hb); clear BK690; clear HB; have BK690 := n0_; have HB := n1_; clear n0_ n1_; (try clear hb); (try clear hb2); (try clear hk); (try clear hi)))
                  go_ret
                  exact ⟨by first | rfl | (simp [errW_none, errW_some] <;> rfl) | (simp [*, errW_none, errW_some] <;> rfl), by repeat (first | (with_reducible first | exact HB.out | apply below_alloc | apply pw_below_drewN | apply below_drew1 | refine below_set ?_ GE690.out) | exact HB.out)⟩
              · replace c34 := Bool.eq_false_iff.mpr c34
                subst c34
                have H1 : (if a0_0 = 3 then ((command_May.f a0_5 a0_6 a0_7 a0_8 a0_9 a0_10).bind fun t694 => (if t694 = true then ((attr_May.f kj30 a0_11 l0_12 a1).bind fun t695 => (some t695)) else (some false))) else (some false)) = some r := by rw [if_neg (show ¬ (false = true) by decide)] at H; exact H
                clear H
                have H := H1
                clear H1
                by_cases c52 : a0_0 = 3
                · rw [if_pos c52] at H
                  have c52b0 : (a0_0 == 3) = true := beq_iff_eq.mpr c52
                  have c52b1 : (a0_0 != 3) = false := bne_eq_false_iff_eq.mpr c52
                  clear c52
                  replace H := Option.bind_eq_some_iff.mp H
                  obtain ⟨t694, A530, H⟩ := H
                  replace H : (if t694 = true then ((attr_May.f kj30 a0_11 l0_12 a1).bind fun t695 => (some t695)) else (some false)) = some r := H
                  have A53 := Aside0.mk A530
                  clear A530
                  by_cases c54 : t694 = true
                  · subst c54
                    have H1 : ((attr_May.f kj30 a0_11 l0_12 a1).bind fun t695 => (some t695)) = some r := by rw [if_pos rfl] at H; exact H
                    clear H
                    have H := H1
                    clear H1
                    replace H := Option.bind_eq_some_iff.mp H
                    obtain ⟨t695, A550, H⟩ := H
                    replace H : (some t695) = some r := H
                    have A55 := Aside0.mk A550
                    clear A550
                    obtain rfl := Option.some.inj H
                    have hcz56_0 : wc.cell? ⟨gb690, 0, none⟩ = some (.int .i64 a0_0) := (blk_cell BK690.out 0).trans rfl
                    have hcz56_1 : wc.cell? ⟨gb690, 1, none⟩ = some (.int .i64 a0_1) := (blk_cell BK690.out 1).trans rfl
                    have hcz56_2 : wc.cell? ⟨gb690, 2, none⟩ = some (.int .i64 a0_2) := (blk_cell BK690.out 2).trans rfl
                    have hcz56_3 : wc.cell? ⟨gb690, 3, none⟩ = some (.int .i64 a0_3) := (blk_cell BK690.out 3).trans rfl
                    have hcz56_4 : wc.cell? ⟨gb690, 4, none⟩ = some (.int .i64 a0_4) := (blk_cell BK690.out 4).trans rfl
                    have hcz56_5 : wc.cell? ⟨gb690, 5, none⟩ = some (.int .i64 a0_5) := (blk_cell BK690.out 5).trans rfl
                    have hcz56_6 : wc.cell? ⟨gb690, 6, none⟩ = some (.int .i64 a0_6) := (blk_cell BK690.out 6).trans rfl
                    have hcz56_7 : wc.cell? ⟨gb690, 7, none⟩ = some (.int .i64 a0_7) := (blk_cell BK690.out 7).trans rfl
                    have hcz56_8 : wc.cell? ⟨gb690, 8, none⟩ = some (.int .i64 a0_8) := (blk_cell BK690.out 8).trans rfl
                    have hcz56_9 : wc.cell? ⟨gb690, 9, none⟩ = some (.int .i64 a0_9) := (blk_cell BK690.out 9).trans rfl
                    have hcz56_10 : wc.cell? ⟨gb690, 10, none⟩ = some (.string a0_10) := (blk_cell BK690.out 10).trans rfl
                    have hcz56_11 : wc.cell? ⟨gb690, 11, none⟩ = some (.int .i64 a0_11) := (blk_cell BK690.out 11).trans rfl
                    have hcz56_12 : wc.cell? ⟨gb690, 12, none⟩ = some (.slice A0_12 l0_12.length c0_12) := (blk_cell BK690.out 12).trans rfl
                    have hfz56_0 := blk_frozen BK690.out 0
                    have hfz56_1 := blk_frozen BK690.out 1
                    have hfz56_2 := blk_frozen BK690.out 2
                    have hfz56_3 := blk_frozen BK690.out 3
                    have hfz56_4 := blk_frozen BK690.out 4
                    have hfz56_5 := blk_frozen BK690.out 5
                    have hfz56_6 := blk_frozen BK690.out 6
                    have hfz56_7 := blk_frozen BK690.out 7
                    have hfz56_8 := blk_frozen BK690.out 8
                    have hfz56_9 := blk_frozen BK690.out 9
                    have hfz56_10 := blk_frozen BK690.out 10
                    have hfz56_11 := blk_frozen BK690.out 11
                    have hfz56_12 := blk_frozen BK690.out 12
                    go_wp2_with (first | ((with_reducible refine gate_callee (f := 32) rfl ?_); refine goesL_ (some 61) rfl rfl Try.func32 (by kernel_rfl) rfl #[.agg #[.int .i64 a0_5, .int .i64 a0_6, .int .i64 a0_7, .int .i64 a0_8, .int .i64 a0_9, .string a0_10]] rfl (by (try simp only [List.map_toArray, List.map_cons, List.map_nil]); first | done | rfl | (simp only [List.length_drop, List.length_take]; rfl)) ?_; (with_reducible refine (command_May.calls a0_5 a0_6 a0_7 a0_8 a0_9 a0_10 true _ A53.out).mono ?_); rintro e w57 ⟨rfl, hb⟩; refine ⟨_, rfl, ?_⟩; have n0_ := Aside0.mk (blk_below (g := gb690) (by (with_reducible repeat (first | refine blk_drewN ?_ _ | refine blk_drew ?_ | refine blk_alloc ?_ _)); exact BK690.out) hb); have n1_ := Aside0.mk (below_step (by repeat (first | (with_reducible first | exact HB.out | apply below_alloc | apply pw_below_drewN | apply below_drew1 | refine below_set ?_ GE690.out) | exact HB.out)) hb); clear BK690; clear HB; have BK690 := n0_; have HB := n1_; clear n0_ n1_; (try clear hb); (try clear hb2); (try clear hk); (try clear hi); have hcz58_0 : w57.cell? ⟨gb690, 0, none⟩ = some (.int .i64 a0_0) := (blk_cell BK690.out 0).trans rfl; have hcz58_1 : w57.cell? ⟨gb690, 1, none⟩ = some (.int .i64 a0_1) := (blk_cell BK690.out 1).trans rfl; have hcz58_2 : w57.cell? ⟨gb690, 2, none⟩ = some (.int .i64 a0_2) := (blk_cell BK690.out 2).trans rfl; have hcz58_3 : w57.cell? ⟨gb690, 3, none⟩ = some (.int .i64 a0_3) := (blk_cell BK690.out 3).trans rfl; have hcz58_4 : w57.cell? ⟨gb690, 4, none⟩ = some (.int .i64 a0_4) := (blk_cell BK690.out 4).trans rfl; have hcz58_5 : w57.cell? ⟨gb690, 5, none⟩ = some (.int .i64 a0_5) := (blk_cell BK690.out 5).trans rfl; have hcz58_6 : w57.cell? ⟨gb690, 6, none⟩ = some (.int .i64 a0_6) := (blk_cell BK690.out 6).trans rfl; have hcz58_7 : w57.cell? ⟨gb690, 7, none⟩ = some (.int .i64 a0_7) := (blk_cell BK690.out 7).trans rfl; have hcz58_8 : w57.cell? ⟨gb690, 8, none⟩ = some (.int .i64 a0_8) := (blk_cell BK690.out 8).trans rfl; have hcz58_9 : w57.cell? ⟨gb690, 9, none⟩ = some (.int .i64 a0_9) := (blk_cell BK690.out 9).trans rfl; have hcz58_10 : w57.cell? ⟨gb690, 10, none⟩ = some (.string a0_10) := (blk_cell BK690.out 10).trans rfl; have hcz58_11 : w57.cell? ⟨gb690, 11, none⟩ = some (.int .i64 a0_11) := (blk_cell BK690.out 11).trans rfl; have hcz58_12 : w57.cell? ⟨gb690, 12, none⟩ = some (.slice A0_12 l0_12.length c0_12) := (blk_cell BK690.out 12).trans rfl; have hfz58_0 := blk_frozen BK690.out 0; have hfz58_1 := blk_frozen BK690.out 1; have hfz58_2 := blk_frozen BK690.out 2; have hfz58_3 := blk_frozen BK690.out 3; have hfz58_4 := blk_frozen BK690.out 4; have hfz58_5 := blk_frozen BK690.out 5; have hfz58_6 := blk_frozen BK690.out 6; have hfz58_7 := blk_frozen BK690.out 7; have hfz58_8 := blk_frozen BK690.out 8; have hfz58_9 := blk_frozen BK690.out 9; have hfz58_10 := blk_frozen BK690.out 10; have hfz58_11 := blk_frozen BK690.out 11; have hfz58_12 := blk_frozen BK690.out 12) | (go_at_call 33; (with_reducible refine (attr_May.calls kj30 a0_11 _ _ l0_12 a1 t695 _ ?side1 ?side2 A55.out).mono ?_); (case side1 => repeat (first | exact (Kd.C_below HR0_12.out HB.out) | (with_reducible refine Kd.C_alloc ?_ _) | (with_reducible refine Kd.C_drewN ?_ _) | (with_reducible refine Kd.C_drew ?_))); (case side2 => exact HC0_12.out); rintro e w59 ⟨rfl, hb⟩; have n0_ := Aside0.mk (blk_below (g := gb690) (by (with_reducible repeat (first | refine blk_drewN ?_ _ | refine blk_drew ?_ | refine blk_alloc ?_ _)); exact BK690.out) hb); have n1_ := Aside0.mk (below_step (by repeat (first | (with_reducible first | exact HB.out | apply below_alloc | apply pw_below_drewN | apply below_drew1 | refine below_set ?_ GE690.out) | exact HB.out)) hb); clear BK690; clear HB; have BK690 := n0_; have HB := n1_; clear n0_ n1_; (try clear hb); (try clear hb2); (try clear hk); (try clear hi)))
                    go_ret
                    exact ⟨by first | rfl | (simp [errW_none, errW_some] <;> rfl) | (simp [*, errW_none, errW_some] <;> rfl), by repeat (first | (with_reducible first | exact HB.out | apply below_alloc | apply pw_below_drewN | apply below_drew1 | refine below_set ?_ GE690.out) | exact HB.out)⟩
                  · replace c54 := Bool.eq_false_iff.mpr c54
                    subst c54
                    have H1 : (some false) = some r := by rw [if_neg (show ¬ (false = true) by decide)] at H; exact H
                    clear H
                    have H := H1
                    clear H1
                    obtain rfl := Option.some.inj H
                    have hcz60_0 : wc.cell? ⟨gb690, 0, none⟩ = some (.int .i64 a0_0) := (blk_cell BK690.out 0).trans rfl
                    have hcz60_1 : wc.cell? ⟨gb690, 1, none⟩ = some (.int .i64 a0_1) := (blk_cell BK690.out 1).trans rfl
                    have hcz60_2 : wc.cell? ⟨gb690, 2, none⟩ = some (.int .i64 a0_2) := (blk_cell BK690.out 2).trans rfl
                    have hcz60_3 : wc.cell? ⟨gb690, 3, none⟩ = some (.int .i64 a0_3) := (blk_cell BK690.out 3).trans rfl
                    have hcz60_4 : wc.cell? ⟨gb690, 4, none⟩ = some (.int .i64 a0_4) := (blk_cell BK690.out 4).trans rfl
                    have hcz60_5 : wc.cell? ⟨gb690, 5, none⟩ = some (.int .i64 a0_5) := (blk_cell BK690.out 5).trans rfl
                    have hcz60_6 : wc.cell? ⟨gb690, 6, none⟩ = some (.int .i64 a0_6) := (blk_cell BK690.out 6).trans rfl
                    have hcz60_7 : wc.cell? ⟨gb690, 7, none⟩ = some (.int .i64 a0_7) := (blk_cell BK690.out 7).trans rfl
                    have hcz60_8 : wc.cell? ⟨gb690, 8, none⟩ = some (.int .i64 a0_8) := (blk_cell BK690.out 8).trans rfl
                    have hcz60_9 : wc.cell? ⟨gb690, 9, none⟩ = some (.int .i64 a0_9) := (blk_cell BK690.out 9).trans rfl
                    have hcz60_10 : wc.cell? ⟨gb690, 10, none⟩ = some (.string a0_10) := (blk_cell BK690.out 10).trans rfl
                    have hcz60_11 : wc.cell? ⟨gb690, 11, none⟩ = some (.int .i64 a0_11) := (blk_cell BK690.out 11).trans rfl
                    have hcz60_12 : wc.cell? ⟨gb690, 12, none⟩ = some (.slice A0_12 l0_12.length c0_12) := (blk_cell BK690.out 12).trans rfl
                    have hfz60_0 := blk_frozen BK690.out 0
                    have hfz60_1 := blk_frozen BK690.out 1
                    have hfz60_2 := blk_frozen BK690.out 2
                    have hfz60_3 := blk_frozen BK690.out 3
                    have hfz60_4 := blk_frozen BK690.out 4
                    have hfz60_5 := blk_frozen BK690.out 5
                    have hfz60_6 := blk_frozen BK690.out 6
                    have hfz60_7 := blk_frozen BK690.out 7
                    have hfz60_8 := blk_frozen BK690.out 8
                    have hfz60_9 := blk_frozen BK690.out 9
                    have hfz60_10 := blk_frozen BK690.out 10
                    have hfz60_11 := blk_frozen BK690.out 11
                    have hfz60_12 := blk_frozen BK690.out 12
                    go_wp2_with (first | ((with_reducible refine gate_callee (f := 32) rfl ?_); refine goesL_ (some 61) rfl rfl Try.func32 (by kernel_rfl) rfl #[.agg #[.int .i64 a0_5, .int .i64 a0_6, .int .i64 a0_7, .int .i64 a0_8, .int .i64 a0_9, .string a0_10]] rfl (by (try simp only [List.map_toArray, List.map_cons, List.map_nil]); first | done | rfl | (simp only [List.length_drop, List.length_take]; rfl)) ?_; (with_reducible refine (command_May.calls a0_5 a0_6 a0_7 a0_8 a0_9 a0_10 false _ A53.out).mono ?_); rintro e w61 ⟨rfl, hb⟩; refine ⟨_, rfl, ?_⟩; have n0_ := Aside0.mk (blk_below (g := gb690) (by (with_reducible repeat (first | refine blk_drewN ?_ _ | refine blk_drew ?_ | refine blk_alloc ?_ _)); exact BK690.out) hb); have n1_ := Aside0.mk (below_step (by repeat (first | (with_reducible first | exact HB.out | apply below_alloc | apply pw_below_drewN | apply below_drew1 | refine below_set ?_ GE690.out) | exact HB.out)) hb); clear BK690; clear HB; have BK690 := n0_; have HB := n1_; clear n0_ n1_; (try clear hb); (try clear hb2); (try clear hk); (try clear hi)))
                    go_ret
                    exact ⟨by first | rfl | (simp [errW_none, errW_some] <;> rfl) | (simp [*, errW_none, errW_some] <;> rfl), by repeat (first | (with_reducible first | exact HB.out | apply below_alloc | apply pw_below_drewN | apply below_drew1 | refine below_set ?_ GE690.out) | exact HB.out)⟩
                · rw [if_neg c52] at H
                  have c52b0 : (a0_0 == 3) = false := beq_eq_false_iff_ne.mpr c52
                  have c52b1 : (a0_0 != 3) = true := bne_iff_ne.mpr c52
                  obtain rfl := Option.some.inj H
                  go_wp2
                  go_ret
                  exact ⟨by first | rfl | (simp [errW_none, errW_some] <;> rfl) | (simp [*, errW_none, errW_some] <;> rfl), by repeat (first | (with_reducible first | exact HB.out | apply below_alloc | apply pw_below_drewN | apply below_drew1 | refine below_set ?_ GE690.out) | exact HB.out)⟩

end Go.Proofs.Ytkijkdifmoifaaa.P
