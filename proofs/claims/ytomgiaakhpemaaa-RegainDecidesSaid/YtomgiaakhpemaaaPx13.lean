/- Plain Lean functions and their contracts over the translation, written by a program of this session (myprint.py, over the kit's print); no condition but each contract's own. -/
import Derived.Test.YtomgiaakhpemaaaPx0
import Derived.Test.YtomgiaakhpemaaaPx1
import Derived.Test.YtomgiaakhpemaaaPx2
import Derived.Test.YtomgiaakhpemaaaPx10
namespace Go.Proofs.Ytomgiaakhpemaaa.P
open Go.RowKit Go.Proofs.YtomgiaakhpemaaaW.PrintWords Go.Proofs.YtomgiaakhpemaaaW.PrintLast Go.Proofs.YtomgiaakhpemaaaW.PrintMore
attribute [local go_sem] max2_int min2_int max_two min_two max_three min_three max_four min_four   -- for this text's walks alone
set_option linter.unusedVariables false
set_option linter.unusedSimpArgs false

attribute [local go_sem high] eqA26 eqA28
abbrev q30_0 : Array Bool := #[false, false, false, false, false, false, false, false, false, false, false, false, false, false, false, false, false, false, false, false, false, false, false, false]
abbrev q30_1 : Array Bool := #[true, false, false, false, false, false, false, false, false, false, false, false, false, false, false, false, false, false, false, false, false, false, false, false]
abbrev q30_2 : Array Bool := #[true, true, false, false, false, false, false, false, false, false, false, false, false, false, false, false, false, false, false, false, false, false, false, false]
abbrev q30_3 : Array Bool := #[true, true, true, false, false, false, false, false, false, false, false, false, false, false, false, false, false, false, false, false, false, false, false, false]
abbrev q30_4 : Array Bool := #[true, true, true, true, false, false, false, false, false, false, false, false, false, false, false, false, false, false, false, false, false, false, false, false]
abbrev q30_5 : Array Bool := #[true, true, true, true, true, false, false, false, false, false, false, false, false, false, false, false, false, false, false, false, false, false, false, false]
abbrev q30_6 : Array Bool := #[true, true, true, true, true, false, true, false, false, false, false, false, false, false, false, false, false, false, false, false, false, false, false, false]
abbrev q30_7 : Array Bool := #[true, true, true, true, true, true, false, false, false, false, false, false, false, false, false, false, false, false, false, false, false, false, false, false]
abbrev q30_8 : Array Bool := #[true, true, true, true, true, false, true, true, false, false, false, false, false, false, false, false, false, false, false, false, false, false, false, false]
abbrev q30_9 : Array Bool := #[true, true, true, true, true, true, true, false, false, false, false, false, false, false, false, false, false, false, false, false, false, false, false, false]
abbrev q30_10 : Array Bool := #[true, true, true, true, true, true, true, true, false, false, false, false, false, false, false, false, false, false, false, false, false, false, false, false]
abbrev q30_11 : Array Bool := #[true, true, true, true, true, true, true, true, true, false, false, false, false, false, false, false, false, false, false, false, false, false, false, false]
abbrev q30_12 : Array Bool := #[true, true, true, true, true, true, true, true, true, true, false, false, false, false, false, false, false, false, false, false, false, false, false, false]
abbrev q30_13 : Array Bool := #[true, true, true, true, true, true, true, true, true, true, true, false, false, false, false, false, false, false, false, false, false, false, false, false]
abbrev q30_14 : Array Bool := #[true, true, true, true, true, true, true, true, true, true, true, true, false, false, false, false, false, false, false, false, false, false, false, false]
abbrev q30_15 : Array Bool := #[true, true, true, true, true, true, true, true, true, true, true, true, false, true, false, false, false, false, false, false, false, false, false, false]
abbrev q30_16 : Array Bool := #[true, true, true, true, true, true, true, true, true, true, true, true, true, false, false, false, false, false, false, false, false, false, false, false]
abbrev q30_17 : Array Bool := #[true, true, true, true, true, true, true, true, true, true, true, true, false, true, true, false, false, false, false, false, false, false, false, false]
abbrev q30_18 : Array Bool := #[true, true, true, true, true, true, true, true, true, true, true, true, true, true, false, false, false, false, false, false, false, false, false, false]
abbrev q30_19 : Array Bool := #[true, true, true, true, true, true, true, true, true, true, true, true, false, true, true, true, false, false, false, false, false, false, false, false]
abbrev q30_20 : Array Bool := #[true, true, true, true, true, true, true, true, true, true, true, true, true, true, true, false, false, false, false, false, false, false, false, false]
abbrev q30_21 : Array Bool := #[true, true, true, true, true, true, true, true, true, true, true, true, false, true, true, true, true, false, false, false, false, false, false, false]
abbrev q30_22 : Array Bool := #[true, true, true, true, true, true, true, true, true, true, true, true, true, true, true, true, false, false, false, false, false, false, false, false]
abbrev q30_23 : Array Bool := #[true, true, true, true, true, true, true, true, true, true, true, true, true, true, true, true, true, false, false, false, false, false, false, false]
abbrev q30_24 : Array Bool := #[true, true, true, true, true, true, true, true, true, true, true, true, true, true, true, true, true, true, false, false, false, false, false, false]
abbrev q30_25 : Array Bool := #[true, true, true, true, true, true, true, true, true, true, true, true, true, true, true, true, true, true, true, false, false, false, false, false]
abbrev q30_26 : Array Bool := #[true, true, true, true, true, true, true, true, true, true, true, true, true, true, true, true, true, true, true, true, false, false, false, false]
abbrev q30_27 : Array Bool := #[true, true, true, true, true, true, true, true, true, true, true, true, true, true, true, true, true, true, true, true, true, false, false, false]
abbrev q30_28 : Array Bool := #[true, true, true, true, true, true, true, true, true, true, true, true, true, true, true, true, true, true, true, true, true, true, false, false]
abbrev q30_29 : Array Bool := #[true, true, true, true, true, true, true, true, true, true, true, true, true, true, true, true, true, true, true, true, true, true, true, false]
abbrev q30_30 : Array Bool := #[true, true, true, true, true, true, true, true, true, true, true, true, true, true, true, true, true, true, true, true, true, true, true, true]
abbrev q30_31 : Array Bool := #[false, false, false, false, false, false, false, false, false]
abbrev q30_32 : Array Bool := #[true, false, false, false, false, false, false, false, false]
abbrev q30_33 : Array Bool := #[true, false, true, false, false, false, false, false, false]
abbrev q30_34 : Array Bool := #[true, false, true, true, false, false, false, false, false]
abbrev q30_35 : Array Bool := #[true, false, true, true, true, false, false, false, false]
abbrev q30_36 : Array Bool := #[true, false, true, true, true, true, false, false, false]
abbrev q30_37 : Array Bool := #[true, true, true, true, true, true, false, false, false]
abbrev q30_38 : Array Bool := #[true, true, true, true, true, true, true, false, false]
abbrev q30_39 : Array Bool := #[true, true, true, true, true, true, true, true, false]
abbrev q30_40 : Array Bool := #[true, true, true, true, true, true, true, true, true]
def colloquyref10_first.l0 : Nat → Int → List (S35) → Int → Option (Bool)
 | 0, _, _, _ => none
 | k + 1, x0, x1, x5 => if x5 < (x1.length : Int) then (if 0 ≤ x5 then (if 0 < (x1.length : Int) then ((colloquyref06_Same.f k ((rd_T35 x1 x5).f1.f4.f0) ((rd_T35 x1 x5).f1.f4.f1) ((rd_T35 x1 0).f1.f4.f0) ((rd_T35 x1 0).f1.f4.f1)).bind fun t285 => (if ((rd_T35 x1 x5).f1.f0) = 1 then (if (!(((rd_T35 x1 x5).f1.f2.f0) == 0) || (!(((rd_T35 x1 x5).f1.f2.f1) == x0))) = true then (some false) else (if (!(((rd_T35 x1 x5).f1.f3.f0) == ((rd_T35 x1 0).f1.f3.f0)) || (!(((rd_T35 x1 x5).f1.f3.f1) == ((rd_T35 x1 0).f1.f3.f1)) || (!(((rd_T35 x1 x5).f1.f3.f2) == ((rd_T35 x1 0).f1.f3.f2)) || (!(((rd_T35 x1 x5).f1.f3.f3) == ((rd_T35 x1 0).f1.f3.f3)) || (!(((rd_T35 x1 x5).f1.f3.f4) == ((rd_T35 x1 0).f1.f3.f4)) || (!((((rd_T35 x1 x5).f1.f3.f5).toList) == (((rd_T35 x1 0).f1.f3.f5).toList)))))))) = true then (some false) else (if t285 = true then (colloquyref10_first.l0 k x0 x1 (wrap64 (x5 + 1))) else (some false)))) else (some false))) else (none)) else (none)) else (some true)
def colloquyref10_first.f (k : Nat) (a0 : Int) (l1 : List (S35)) : Option (Bool) := colloquyref10_first.l0 k a0 l1 0
def colloquyref10_first.T5 : Bool × List (List Nat × List Nat) := (true, [([], []), ([0], [0]), ([], []), ([2], [2]), ([3], [3]), ([4], [4]), ([5], [5]), ([1, 6], [1, 6]), ([7, 7, 0, 1, 2, 3, 4, 5, 6, 7], [7])])
def colloquyref10_first.B5 : List Nat := [0, 1, 0, 4, 12, 28, 60, 127, 255]
theorem colloquyref10_first.tab5 : rtab .any (opsOf Try.f30 5) = colloquyref10_first.T5 := by kernel_rfl
theorem colloquyref10_first.bits5 : waitsOk colloquyref10_first.T5.2 colloquyref10_first.B5 = true := by kernel_rfl
def colloquyref10_first.T6 : Bool × List (List Nat × List Nat) := (true, [([], []), ([0], [0]), ([1], [1]), ([2], [2]), ([3], [3]), ([4, 3], [3, 4]), ([3], [3]), ([6, 3], [3, 6]), ([5, 7, 3], [3, 5, 7]), ([3, 8], [3, 8]), ([9, 3], [9]), ([10], [10]), ([11, 10], [10, 11]), ([10], [10]), ([13, 10], [10, 13]), ([14, 10], [10, 14]), ([15, 10], [10, 15]), ([16, 10], [10, 16]), ([12, 17, 10], [10, 12, 17]), ([10, 18], [10, 18]), ([19, 10], [19]), ([20], [20]), ([21, 20], [20, 21]), ([20, 22], [20, 22])])
def colloquyref10_first.B6 : List Nat := [0, 1, 3, 7, 15, 31, 15, 79, 255, 511, 1023, 2047, 4095, 2047, 10239, 26623, 59391, 124927, 262143, 524287, 1048575, 2097151, 4194303, 8388607]
theorem colloquyref10_first.tab6 : rtab .any (opsOf Try.f30 6) = colloquyref10_first.T6 := by kernel_rfl
theorem colloquyref10_first.bits6 : waitsOk colloquyref10_first.T6.2 colloquyref10_first.B6 = true := by kernel_rfl
set_option maxHeartbeats 8000000 in
set_option maxRecDepth 100000 in
theorem colloquyref10_first.calls (k : Nat) (a0 : Int) (A1 : Option Addr) (c1 : Nat) (l1 : List (S35)) (r : Bool) (w : World) (hr1 : Kd.C k35 w A1 l1.length l1) (hc1 : l1.length ≤ c1) (h : colloquyref10_first.f k a0 l1 = some r) :
  Calls Try.prog 30 #[.int .i64 a0, .slice A1 l1.length c1] w fun e w' => e = .returned (.bool r) ∧ Below w.heap.size w w' := by
 have hu33 := Try.underlying33
 have hu31 := Try.underlying31
 have hu26 := Try.underlying26
 have hu28 := Try.underlying28
 have HR1 := Aside0.mk hr1
 have HC1 := Aside0.mk hc1
 clear hr1 hc1
 have HB := Aside0.mk (Below.refl w.heap.size w)
 have H : (colloquyref10_first.l0 k a0 l1 0) = some r := h
 clear h
 have H' := Aside0.mk H
 clear H
 go_enter Try.func30, Try.ntmps30
 go_wp2
 go_loopg [5] k (fun kq v5 w' => ∃ (x5_1 : Int), v5 = .int .i64 x5_1 ∧ Aside0 (colloquyref10_first.l0 kq a0 l1 x5_1 = some r) ∧ Aside0 (kq ≤ k) ∧ Aside0 (Below w.heap.size w w'))
 case atStart => exact ⟨(0), (by first | rfl | (simp; done) | (simp [*]; done)), H', ⟨Nat.le_refl _⟩, ⟨gw_ HB⟩⟩
 case round =>
  clear H'
  try clear c1
  try clear p2
  obtain ⟨x5_1, rfl, HA, HK1, HB⟩ := hrel
  cases gk with
  | zero => exact absurd HA.out (by simp [colloquyref10_first.l0])
  | succ k1 =>
   have H := HA.out
   clear HA
   simp only [colloquyref10_first.l0] at H
   by_cases c3 : x5_1 < (l1.length : Int)
   ·
    rw [if_pos c3] at H
    have c3b0 : decide (x5_1 < (l1.length : Int)) = true := decide_eq_true c3
    clear c3
    by_cases c4 : 0 ≤ x5_1
    ·
     rw [if_pos c4] at H
     have c4b0 : decide (0 ≤ x5_1) = true := decide_eq_true c4
     clear c4
     by_cases c5 : 0 < (l1.length : Int)
     ·
      rw [if_pos c5] at H
      have c5b0 : decide (0 < (l1.length : Int)) = true := decide_eq_true c5
      have c5b1 : decide (0 < l1.length) = true := decide_eq_true (by omega)
      clear c5
      replace H := Option.bind_eq_some_iff.mp H
      obtain ⟨t285, A60, H⟩ := H
      replace H : (if ((rd_T35 l1 x5_1).f1.f0) = 1 then (if (!(((rd_T35 l1 x5_1).f1.f2.f0) == 0) || (!(((rd_T35 l1 x5_1).f1.f2.f1) == a0))) = true then (some false) else (if (!(((rd_T35 l1 x5_1).f1.f3.f0) == ((rd_T35 l1 0).f1.f3.f0)) || (!(((rd_T35 l1 x5_1).f1.f3.f1) == ((rd_T35 l1 0).f1.f3.f1)) || (!(((rd_T35 l1 x5_1).f1.f3.f2) == ((rd_T35 l1 0).f1.f3.f2)) || (!(((rd_T35 l1 x5_1).f1.f3.f3) == ((rd_T35 l1 0).f1.f3.f3)) || (!(((rd_T35 l1 x5_1).f1.f3.f4) == ((rd_T35 l1 0).f1.f3.f4)) || (!((((rd_T35 l1 x5_1).f1.f3.f5).toList) == (((rd_T35 l1 0).f1.f3.f5).toList)))))))) = true then (some false) else (if t285 = true then (colloquyref10_first.l0 k1 a0 l1 (wrap64 (x5_1 + 1))) else (some false)))) else (some false)) = some r := H
      have A6 := Aside0.mk A60
      clear A60
      by_cases c7 : ((rd_T35 l1 x5_1).f1.f0) = 1
      ·
       rw [if_pos c7] at H
       have c7b0 : (((rd_T35 l1 x5_1).f1.f0) == 1) = true := beq_iff_eq.mpr c7
       have c7b1 : (((rd_T35 l1 x5_1).f1.f0) != 1) = false := bne_eq_false_iff_eq.mpr c7
       clear c7
       by_cases c8 : (!(((rd_T35 l1 x5_1).f1.f2.f0) == 0) || (!(((rd_T35 l1 x5_1).f1.f2.f1) == a0))) = true
       ·
        rw [if_pos c8] at H
        have c8b0 : (!(((rd_T35 l1 x5_1).f1.f2.f0) == 0) || (!(((rd_T35 l1 x5_1).f1.f2.f1) == a0))) = true := c8
        clear c8
        obtain rfl := Option.some.inj H
        have p282 : 0 ≤ (x5_1 : Int) := of_decide_eq_true (by first | (with_reducible assumption) | assumption)
        have q282 : x5_1 < (l1.length : Int) := of_decide_eq_true (by first | (with_reducible assumption) | assumption)
        obtain ⟨ad282, A282_13, c282_13, e282, hx282_0, hx282_1, hx282_2, hx282_3, hx282_4, hx282_5, hx282_6, hx282_7, hx282_8, hx282_9, hx282_10, hx282_11, hx282_12, hx282_13, hl282_13, hi282_13⟩ := at_T35 HR1.out x5_1 p282 q282
        cases e282
        replace hx282_0 := (HB.out.cell (World.block_lt_of_cell? w _ hx282_0)).trans hx282_0
        replace hx282_1 := (HB.out.cell (World.block_lt_of_cell? w _ hx282_1)).trans hx282_1
        replace hx282_2 := (HB.out.cell (World.block_lt_of_cell? w _ hx282_2)).trans hx282_2
        replace hx282_3 := (HB.out.cell (World.block_lt_of_cell? w _ hx282_3)).trans hx282_3
        replace hx282_4 := (HB.out.cell (World.block_lt_of_cell? w _ hx282_4)).trans hx282_4
        replace hx282_5 := (HB.out.cell (World.block_lt_of_cell? w _ hx282_5)).trans hx282_5
        replace hx282_6 := (HB.out.cell (World.block_lt_of_cell? w _ hx282_6)).trans hx282_6
        replace hx282_7 := (HB.out.cell (World.block_lt_of_cell? w _ hx282_7)).trans hx282_7
        replace hx282_8 := (HB.out.cell (World.block_lt_of_cell? w _ hx282_8)).trans hx282_8
        replace hx282_9 := (HB.out.cell (World.block_lt_of_cell? w _ hx282_9)).trans hx282_9
        replace hx282_10 := (HB.out.cell (World.block_lt_of_cell? w _ hx282_10)).trans hx282_10
        replace hx282_11 := (HB.out.cell (World.block_lt_of_cell? w _ hx282_11)).trans hx282_11
        replace hx282_12 := (HB.out.cell (World.block_lt_of_cell? w _ hx282_12)).trans hx282_12
        replace hx282_13 := (HB.out.cell (World.block_lt_of_cell? w _ hx282_13)).trans hx282_13
        have HR282_13 := Aside0.mk hi282_13
        have HC282_13 := Aside0.mk hl282_13
        clear hi282_13 hl282_13
        replace p282 := eq_true p282
        replace q282 := eq_true q282
        try go_wp2_with (first | ((with_reducible refine gate_dst (N := 6) rfl ?_); refine box_event ?hg (N := 6) ?hd (cs := #[.int .i64 0, .int .i64 0, .int .i64 0, .int .i64 0, .int .i64 0, .int .i64 0, .int .i64 0, .int .i64 0, .int .i64 0, .int .i64 0, .string (⟨#[]⟩ : ByteArray), .int .i64 0, .slice none 0 0]) (t := 33) ?hr ?_; (case hd => rfl); (case hg => rfl); (case hr => first | (go_simp; done) | (go_simp; rfl)); intro gb283 hg w9 hbox hb; have s_ := step_size_ (gw_ HB) hb hg; have n0_ := Aside0.mk s_.1; have n1_ := Aside0.mk (hbox); have n2_ := Aside0.mk s_.2; clear s_; have n3_ := n2_; clear HB; have HB := n0_; have BK283 := n1_; have GW283 := n2_; have GE283 := n3_; clear n0_ n1_ n2_ n3_; clear hb hbox hg; obtain ⟨hcz10_0, hcz10_1, hcz10_2, hcz10_3, hcz10_4, hcz10_5, hcz10_6, hcz10_7, hcz10_8, hcz10_9, hcz10_10, hcz10_11, hcz10_12⟩ := blk_cells13 BK283.out; have hfz10_0 := blk_frozen BK283.out 0; have hfz10_1 := blk_frozen BK283.out 1; have hfz10_2 := blk_frozen BK283.out 2; have hfz10_3 := blk_frozen BK283.out 3; have hfz10_4 := blk_frozen BK283.out 4; have hfz10_5 := blk_frozen BK283.out 5; have hfz10_6 := blk_frozen BK283.out 6; have hfz10_7 := blk_frozen BK283.out 7; have hfz10_8 := blk_frozen BK283.out 8; have hfz10_9 := blk_frozen BK283.out 9; have hfz10_10 := blk_frozen BK283.out 10; have hfz10_11 := blk_frozen BK283.out 11; have hfz10_12 := blk_frozen BK283.out 12))
        have n0_ : Aside0 ((((((((((((((w9.setCell ⟨gb283, 0, none⟩ (.int .i64 ((rd_T35 l1 x5_1).f1.f0))).setCell ⟨gb283, 1, none⟩ (.int .i64 ((rd_T35 l1 x5_1).f1.f1.f0))).setCell ⟨gb283, 2, none⟩ (.int .i64 ((rd_T35 l1 x5_1).f1.f1.f1))).setCell ⟨gb283, 3, none⟩ (.int .i64 ((rd_T35 l1 x5_1).f1.f2.f0))).setCell ⟨gb283, 4, none⟩ (.int .i64 ((rd_T35 l1 x5_1).f1.f2.f1))).setCell ⟨gb283, 5, none⟩ (.int .i64 ((rd_T35 l1 x5_1).f1.f3.f0))).setCell ⟨gb283, 6, none⟩ (.int .i64 ((rd_T35 l1 x5_1).f1.f3.f1))).setCell ⟨gb283, 7, none⟩ (.int .i64 ((rd_T35 l1 x5_1).f1.f3.f2))).setCell ⟨gb283, 8, none⟩ (.int .i64 ((rd_T35 l1 x5_1).f1.f3.f3))).setCell ⟨gb283, 9, none⟩ (.int .i64 ((rd_T35 l1 x5_1).f1.f3.f4))).setCell ⟨gb283, 10, none⟩ (.string ((rd_T35 l1 x5_1).f1.f3.f5))).setCell ⟨gb283, 11, none⟩ (.int .i64 ((rd_T35 l1 x5_1).f1.f4.f0))).setCell ⟨gb283, 12, none⟩ (.slice A282_13 ((rd_T35 l1 x5_1).f1.f4.f1).length c282_13)).heap[gb283]? = some (.cells #[.int .i64 ((rd_T35 l1 x5_1).f1.f0), .int .i64 ((rd_T35 l1 x5_1).f1.f1.f0), .int .i64 ((rd_T35 l1 x5_1).f1.f1.f1), .int .i64 ((rd_T35 l1 x5_1).f1.f2.f0), .int .i64 ((rd_T35 l1 x5_1).f1.f2.f1), .int .i64 ((rd_T35 l1 x5_1).f1.f3.f0), .int .i64 ((rd_T35 l1 x5_1).f1.f3.f1), .int .i64 ((rd_T35 l1 x5_1).f1.f3.f2), .int .i64 ((rd_T35 l1 x5_1).f1.f3.f3), .int .i64 ((rd_T35 l1 x5_1).f1.f3.f4), .string ((rd_T35 l1 x5_1).f1.f3.f5), .int .i64 ((rd_T35 l1 x5_1).f1.f4.f0), .slice A282_13 ((rd_T35 l1 x5_1).f1.f4.f1).length c282_13] 33 (0, 0))) := ⟨by (with_reducible repeat (first | refine blk_drewN ?_ _ | refine blk_drew ?_ | refine blk_alloc ?_ _)); refine blk_put13 (cs := #[.int .i64 0, .int .i64 0, .int .i64 0, .int .i64 0, .int .i64 0, .int .i64 0, .int .i64 0, .int .i64 0, .int .i64 0, .int .i64 0, .string (⟨#[]⟩ : ByteArray), .int .i64 0, .slice none 0 0]) ?_ rfl; (with_reducible repeat (first | refine blk_drewN ?_ _ | refine blk_drew ?_ | refine blk_alloc ?_ _)); exact BK283.out⟩
        have n1_ : Aside0 (Below w.heap.size w (((((((((((((w9.setCell ⟨gb283, 0, none⟩ (.int .i64 ((rd_T35 l1 x5_1).f1.f0))).setCell ⟨gb283, 1, none⟩ (.int .i64 ((rd_T35 l1 x5_1).f1.f1.f0))).setCell ⟨gb283, 2, none⟩ (.int .i64 ((rd_T35 l1 x5_1).f1.f1.f1))).setCell ⟨gb283, 3, none⟩ (.int .i64 ((rd_T35 l1 x5_1).f1.f2.f0))).setCell ⟨gb283, 4, none⟩ (.int .i64 ((rd_T35 l1 x5_1).f1.f2.f1))).setCell ⟨gb283, 5, none⟩ (.int .i64 ((rd_T35 l1 x5_1).f1.f3.f0))).setCell ⟨gb283, 6, none⟩ (.int .i64 ((rd_T35 l1 x5_1).f1.f3.f1))).setCell ⟨gb283, 7, none⟩ (.int .i64 ((rd_T35 l1 x5_1).f1.f3.f2))).setCell ⟨gb283, 8, none⟩ (.int .i64 ((rd_T35 l1 x5_1).f1.f3.f3))).setCell ⟨gb283, 9, none⟩ (.int .i64 ((rd_T35 l1 x5_1).f1.f3.f4))).setCell ⟨gb283, 10, none⟩ (.string ((rd_T35 l1 x5_1).f1.f3.f5))).setCell ⟨gb283, 11, none⟩ (.int .i64 ((rd_T35 l1 x5_1).f1.f4.f0))).setCell ⟨gb283, 12, none⟩ (.slice A282_13 ((rd_T35 l1 x5_1).f1.f4.f1).length c282_13))) := ⟨gw_ HB⟩
        (try clear BK283)
        (try clear HB)
        generalize (((((((((((((w9.setCell ⟨gb283, 0, none⟩ (.int .i64 ((rd_T35 l1 x5_1).f1.f0))).setCell ⟨gb283, 1, none⟩ (.int .i64 ((rd_T35 l1 x5_1).f1.f1.f0))).setCell ⟨gb283, 2, none⟩ (.int .i64 ((rd_T35 l1 x5_1).f1.f1.f1))).setCell ⟨gb283, 3, none⟩ (.int .i64 ((rd_T35 l1 x5_1).f1.f2.f0))).setCell ⟨gb283, 4, none⟩ (.int .i64 ((rd_T35 l1 x5_1).f1.f2.f1))).setCell ⟨gb283, 5, none⟩ (.int .i64 ((rd_T35 l1 x5_1).f1.f3.f0))).setCell ⟨gb283, 6, none⟩ (.int .i64 ((rd_T35 l1 x5_1).f1.f3.f1))).setCell ⟨gb283, 7, none⟩ (.int .i64 ((rd_T35 l1 x5_1).f1.f3.f2))).setCell ⟨gb283, 8, none⟩ (.int .i64 ((rd_T35 l1 x5_1).f1.f3.f3))).setCell ⟨gb283, 9, none⟩ (.int .i64 ((rd_T35 l1 x5_1).f1.f3.f4))).setCell ⟨gb283, 10, none⟩ (.string ((rd_T35 l1 x5_1).f1.f3.f5))).setCell ⟨gb283, 11, none⟩ (.int .i64 ((rd_T35 l1 x5_1).f1.f4.f0))).setCell ⟨gb283, 12, none⟩ (.slice A282_13 ((rd_T35 l1 x5_1).f1.f4.f1).length c282_13)) = w11 at n0_ n1_ ⊢
        have BK283 := n0_
        have HB := n1_
        clear n0_ n1_
        have n0_ := Aside0.mk (blk_drew BK283.out)
        have n1_ := Aside0.mk (below_drew1 HB.out)
        clear BK283
        clear HB
        have BK283 := n0_
        have HB := n1_
        clear n0_ n1_
        have p284 : 0 ≤ (0 : Int) := (by omega)
        have q284 : 0 < (l1.length : Int) := of_decide_eq_true (by first | (with_reducible assumption) | assumption)
        obtain ⟨ad284, A284_13, c284_13, e284, hx284_0, hx284_1, hx284_2, hx284_3, hx284_4, hx284_5, hx284_6, hx284_7, hx284_8, hx284_9, hx284_10, hx284_11, hx284_12, hx284_13, hl284_13, hi284_13⟩ := at_T35 HR1.out 0 p284 q284
        have hw284_13 := hx284_13
        (try rw [show ((0 : Int)).toNat = 0 from rfl] at hw284_13)
        (try rw [show 0 * 14 = 0 from rfl] at hw284_13)
        (try rw [Addr.add_zero'] at hw284_13)
        have hw284_12 := hx284_12
        (try rw [show ((0 : Int)).toNat = 0 from rfl] at hw284_12)
        (try rw [show 0 * 14 = 0 from rfl] at hw284_12)
        (try rw [Addr.add_zero'] at hw284_12)
        have hw284_11 := hx284_11
        (try rw [show ((0 : Int)).toNat = 0 from rfl] at hw284_11)
        (try rw [show 0 * 14 = 0 from rfl] at hw284_11)
        (try rw [Addr.add_zero'] at hw284_11)
        have hw284_10 := hx284_10
        (try rw [show ((0 : Int)).toNat = 0 from rfl] at hw284_10)
        (try rw [show 0 * 14 = 0 from rfl] at hw284_10)
        (try rw [Addr.add_zero'] at hw284_10)
        have hw284_9 := hx284_9
        (try rw [show ((0 : Int)).toNat = 0 from rfl] at hw284_9)
        (try rw [show 0 * 14 = 0 from rfl] at hw284_9)
        (try rw [Addr.add_zero'] at hw284_9)
        have hw284_8 := hx284_8
        (try rw [show ((0 : Int)).toNat = 0 from rfl] at hw284_8)
        (try rw [show 0 * 14 = 0 from rfl] at hw284_8)
        (try rw [Addr.add_zero'] at hw284_8)
        have hw284_7 := hx284_7
        (try rw [show ((0 : Int)).toNat = 0 from rfl] at hw284_7)
        (try rw [show 0 * 14 = 0 from rfl] at hw284_7)
        (try rw [Addr.add_zero'] at hw284_7)
        have hw284_6 := hx284_6
        (try rw [show ((0 : Int)).toNat = 0 from rfl] at hw284_6)
        (try rw [show 0 * 14 = 0 from rfl] at hw284_6)
        (try rw [Addr.add_zero'] at hw284_6)
        have hw284_5 := hx284_5
        (try rw [show ((0 : Int)).toNat = 0 from rfl] at hw284_5)
        (try rw [show 0 * 14 = 0 from rfl] at hw284_5)
        (try rw [Addr.add_zero'] at hw284_5)
        have hw284_4 := hx284_4
        (try rw [show ((0 : Int)).toNat = 0 from rfl] at hw284_4)
        (try rw [show 0 * 14 = 0 from rfl] at hw284_4)
        (try rw [Addr.add_zero'] at hw284_4)
        have hw284_3 := hx284_3
        (try rw [show ((0 : Int)).toNat = 0 from rfl] at hw284_3)
        (try rw [show 0 * 14 = 0 from rfl] at hw284_3)
        (try rw [Addr.add_zero'] at hw284_3)
        have hw284_2 := hx284_2
        (try rw [show ((0 : Int)).toNat = 0 from rfl] at hw284_2)
        (try rw [show 0 * 14 = 0 from rfl] at hw284_2)
        (try rw [Addr.add_zero'] at hw284_2)
        have hw284_1 := hx284_1
        (try rw [show ((0 : Int)).toNat = 0 from rfl] at hw284_1)
        (try rw [show 0 * 14 = 0 from rfl] at hw284_1)
        (try rw [Addr.add_zero'] at hw284_1)
        have hw284_0 := hx284_0
        (try rw [show ((0 : Int)).toNat = 0 from rfl] at hw284_0)
        (try rw [show 0 * 14 = 0 from rfl] at hw284_0)
        (try rw [Addr.add_zero'] at hw284_0)
        obtain rfl : ad282 = ad284 := (by injection e284)
        have qi284 : (0 < l1.length) = True := eq_true (by omega)
        (try rw [show ((0 : Int)).toNat = 0 from rfl] at hx284_0)
        (try rw [show 0 * 14 = 0 from rfl] at hx284_0)
        (try rw [Addr.add_zero'] at hx284_0)
        (try rw [show ((0 : Int)).toNat = 0 from rfl] at hx284_1)
        (try rw [show 0 * 14 = 0 from rfl] at hx284_1)
        (try rw [Addr.add_zero'] at hx284_1)
        (try rw [show ((0 : Int)).toNat = 0 from rfl] at hx284_2)
        (try rw [show 0 * 14 = 0 from rfl] at hx284_2)
        (try rw [Addr.add_zero'] at hx284_2)
        (try rw [show ((0 : Int)).toNat = 0 from rfl] at hx284_3)
        (try rw [show 0 * 14 = 0 from rfl] at hx284_3)
        (try rw [Addr.add_zero'] at hx284_3)
        (try rw [show ((0 : Int)).toNat = 0 from rfl] at hx284_4)
        (try rw [show 0 * 14 = 0 from rfl] at hx284_4)
        (try rw [Addr.add_zero'] at hx284_4)
        (try rw [show ((0 : Int)).toNat = 0 from rfl] at hx284_5)
        (try rw [show 0 * 14 = 0 from rfl] at hx284_5)
        (try rw [Addr.add_zero'] at hx284_5)
        (try rw [show ((0 : Int)).toNat = 0 from rfl] at hx284_6)
        (try rw [show 0 * 14 = 0 from rfl] at hx284_6)
        (try rw [Addr.add_zero'] at hx284_6)
        (try rw [show ((0 : Int)).toNat = 0 from rfl] at hx284_7)
        (try rw [show 0 * 14 = 0 from rfl] at hx284_7)
        (try rw [Addr.add_zero'] at hx284_7)
        (try rw [show ((0 : Int)).toNat = 0 from rfl] at hx284_8)
        (try rw [show 0 * 14 = 0 from rfl] at hx284_8)
        (try rw [Addr.add_zero'] at hx284_8)
        (try rw [show ((0 : Int)).toNat = 0 from rfl] at hx284_9)
        (try rw [show 0 * 14 = 0 from rfl] at hx284_9)
        (try rw [Addr.add_zero'] at hx284_9)
        (try rw [show ((0 : Int)).toNat = 0 from rfl] at hx284_10)
        (try rw [show 0 * 14 = 0 from rfl] at hx284_10)
        (try rw [Addr.add_zero'] at hx284_10)
        (try rw [show ((0 : Int)).toNat = 0 from rfl] at hx284_11)
        (try rw [show 0 * 14 = 0 from rfl] at hx284_11)
        (try rw [Addr.add_zero'] at hx284_11)
        (try rw [show ((0 : Int)).toNat = 0 from rfl] at hx284_12)
        (try rw [show 0 * 14 = 0 from rfl] at hx284_12)
        (try rw [Addr.add_zero'] at hx284_12)
        (try rw [show ((0 : Int)).toNat = 0 from rfl] at hx284_13)
        (try rw [show 0 * 14 = 0 from rfl] at hx284_13)
        (try rw [Addr.add_zero'] at hx284_13)
        replace hx284_0 := (HB.out.cell (World.block_lt_of_cell? w _ hx284_0)).trans hx284_0
        replace hx284_1 := (HB.out.cell (World.block_lt_of_cell? w _ hx284_1)).trans hx284_1
        replace hx284_2 := (HB.out.cell (World.block_lt_of_cell? w _ hx284_2)).trans hx284_2
        replace hx284_3 := (HB.out.cell (World.block_lt_of_cell? w _ hx284_3)).trans hx284_3
        replace hx284_4 := (HB.out.cell (World.block_lt_of_cell? w _ hx284_4)).trans hx284_4
        replace hx284_5 := (HB.out.cell (World.block_lt_of_cell? w _ hx284_5)).trans hx284_5
        replace hx284_6 := (HB.out.cell (World.block_lt_of_cell? w _ hx284_6)).trans hx284_6
        replace hx284_7 := (HB.out.cell (World.block_lt_of_cell? w _ hx284_7)).trans hx284_7
        replace hx284_8 := (HB.out.cell (World.block_lt_of_cell? w _ hx284_8)).trans hx284_8
        replace hx284_9 := (HB.out.cell (World.block_lt_of_cell? w _ hx284_9)).trans hx284_9
        replace hx284_10 := (HB.out.cell (World.block_lt_of_cell? w _ hx284_10)).trans hx284_10
        replace hx284_11 := (HB.out.cell (World.block_lt_of_cell? w _ hx284_11)).trans hx284_11
        replace hx284_12 := (HB.out.cell (World.block_lt_of_cell? w _ hx284_12)).trans hx284_12
        replace hx284_13 := (HB.out.cell (World.block_lt_of_cell? w _ hx284_13)).trans hx284_13
        have HR284_13 := Aside0.mk hi284_13
        have HC284_13 := Aside0.mk hl284_13
        clear hi284_13 hl284_13
        replace p284 := eq_true p284
        replace q284 := eq_true q284
        refine start_ (n := 9) (S := fun w' => w'.cell? ⟨gb283, 0, none⟩ = some (.int .i64 ((rd_T35 l1 x5_1).f1.f0)) ∧ w'.cell? ⟨gb283, 1, none⟩ = some (.int .i64 ((rd_T35 l1 x5_1).f1.f1.f0)) ∧ w'.cell? ⟨gb283, 2, none⟩ = some (.int .i64 ((rd_T35 l1 x5_1).f1.f1.f1)) ∧ w'.cell? ⟨gb283, 3, none⟩ = some (.int .i64 ((rd_T35 l1 x5_1).f1.f2.f0)) ∧ w'.cell? ⟨gb283, 4, none⟩ = some (.int .i64 ((rd_T35 l1 x5_1).f1.f2.f1)) ∧ w'.cell? ⟨gb283, 5, none⟩ = some (.int .i64 ((rd_T35 l1 x5_1).f1.f3.f0)) ∧ w'.cell? ⟨gb283, 6, none⟩ = some (.int .i64 ((rd_T35 l1 x5_1).f1.f3.f1)) ∧ w'.cell? ⟨gb283, 7, none⟩ = some (.int .i64 ((rd_T35 l1 x5_1).f1.f3.f2)) ∧ w'.cell? ⟨gb283, 8, none⟩ = some (.int .i64 ((rd_T35 l1 x5_1).f1.f3.f3)) ∧ w'.cell? ⟨gb283, 9, none⟩ = some (.int .i64 ((rd_T35 l1 x5_1).f1.f3.f4)) ∧ w'.cell? ⟨gb283, 10, none⟩ = some (.string ((rd_T35 l1 x5_1).f1.f3.f5)) ∧ w'.cell? ⟨gb283, 11, none⟩ = some (.int .i64 ((rd_T35 l1 x5_1).f1.f4.f0)) ∧ w'.cell? ⟨gb283, 12, none⟩ = some (.slice A282_13 ((rd_T35 l1 x5_1).f1.f4.f1).length c282_13) ∧ w'.cell? ad282 = some (.int .i64 ((rd_T35 l1 0).f0)) ∧ w'.cell? ⟨ad282.block, ad282.off + 1, none⟩ = some (.int .i64 ((rd_T35 l1 0).f1.f0)) ∧ w'.cell? ⟨ad282.block, ad282.off + 2, none⟩ = some (.int .i64 ((rd_T35 l1 0).f1.f1.f0)) ∧ w'.cell? ⟨ad282.block, ad282.off + 3, none⟩ = some (.int .i64 ((rd_T35 l1 0).f1.f1.f1)) ∧ w'.cell? ⟨ad282.block, ad282.off + 4, none⟩ = some (.int .i64 ((rd_T35 l1 0).f1.f2.f0)) ∧ w'.cell? ⟨ad282.block, ad282.off + 5, none⟩ = some (.int .i64 ((rd_T35 l1 0).f1.f2.f1)) ∧ w'.cell? ⟨ad282.block, ad282.off + 6, none⟩ = some (.int .i64 ((rd_T35 l1 0).f1.f3.f0)) ∧ w'.cell? ⟨ad282.block, ad282.off + 7, none⟩ = some (.int .i64 ((rd_T35 l1 0).f1.f3.f1)) ∧ w'.cell? ⟨ad282.block, ad282.off + 8, none⟩ = some (.int .i64 ((rd_T35 l1 0).f1.f3.f2)) ∧ w'.cell? ⟨ad282.block, ad282.off + 9, none⟩ = some (.int .i64 ((rd_T35 l1 0).f1.f3.f3)) ∧ w'.cell? ⟨ad282.block, ad282.off + 10, none⟩ = some (.int .i64 ((rd_T35 l1 0).f1.f3.f4)) ∧ w'.cell? ⟨ad282.block, ad282.off + 11, none⟩ = some (.string ((rd_T35 l1 0).f1.f3.f5)) ∧ w'.cell? ⟨ad282.block, ad282.off + 12, none⟩ = some (.int .i64 ((rd_T35 l1 0).f1.f4.f0)) ∧ w'.cell? ⟨ad282.block, ad282.off + 13, none⟩ = some (.slice A284_13 ((rd_T35 l1 0).f1.f4.f1).length c284_13)) (ds := []) q30_31 (by kernel_rfl) rfl rfl ⟨(blk_cell BK283.out 0).trans rfl, (blk_cell BK283.out 1).trans rfl, (blk_cell BK283.out 2).trans rfl, (blk_cell BK283.out 3).trans rfl, (blk_cell BK283.out 4).trans rfl, (blk_cell BK283.out 5).trans rfl, (blk_cell BK283.out 6).trans rfl, (blk_cell BK283.out 7).trans rfl, (blk_cell BK283.out 8).trans rfl, (blk_cell BK283.out 9).trans rfl, (blk_cell BK283.out 10).trans rfl, (blk_cell BK283.out 11).trans rfl, (blk_cell BK283.out 12).trans rfl, ((HB.out.cell (World.block_lt_of_cell? w _ hw284_0)).trans hw284_0), ((HB.out.cell (World.block_lt_of_cell? w _ hw284_1)).trans hw284_1), ((HB.out.cell (World.block_lt_of_cell? w _ hw284_2)).trans hw284_2), ((HB.out.cell (World.block_lt_of_cell? w _ hw284_3)).trans hw284_3), ((HB.out.cell (World.block_lt_of_cell? w _ hw284_4)).trans hw284_4), ((HB.out.cell (World.block_lt_of_cell? w _ hw284_5)).trans hw284_5), ((HB.out.cell (World.block_lt_of_cell? w _ hw284_6)).trans hw284_6), ((HB.out.cell (World.block_lt_of_cell? w _ hw284_7)).trans hw284_7), ((HB.out.cell (World.block_lt_of_cell? w _ hw284_8)).trans hw284_8), ((HB.out.cell (World.block_lt_of_cell? w _ hw284_9)).trans hw284_9), ((HB.out.cell (World.block_lt_of_cell? w _ hw284_10)).trans hw284_10), ((HB.out.cell (World.block_lt_of_cell? w _ hw284_11)).trans hw284_11), ((HB.out.cell (World.block_lt_of_cell? w _ hw284_12)).trans hw284_12), ((HB.out.cell (World.block_lt_of_cell? w _ hw284_13)).trans hw284_13)⟩ (fun hHeld => ?_); refine with_tabW colloquyref10_first.tab5 colloquyref10_first.bits5 (fun HT_ HW_ => ?_)
        generalize w11.drew = w12 at BK283 HB HR284_13 hx284_0 hx284_1 hx284_10 hx284_11 hx284_12 hx284_13 hx284_2 hx284_3 hx284_4 hx284_5 hx284_6 hx284_7 hx284_8 hx284_9 hHeld ⊢
        refine pure_ (i := 0) (N := some 19) (v := ?_) (a' := ?_) q30_32 rfl rfl (any_of HT_.out (by kernel_rfl)) (fun _ _ _ h => h) (Or.inl ⟨by rfl, ?_⟩) ?_ ?_
        rotate_left
        ·
         intro w'
         go_simp
         with_reducible rfl
        rotate_left
        ·
         simp only [Act.put, List.setIfInBounds_toArray, List.set_cons_zero, List.set_cons_succ, i64_w, i32_w]
         rfl
        refine pure_ (i := 2) (N := some 21) (v := ?_) (a' := ?_) q30_33 rfl rfl (any_of HT_.out (by kernel_rfl)) (fun _ _ _ h => h) (Or.inl ⟨by rfl, ?_⟩) ?_ ?_
        rotate_left
        ·
         intro w'
         go_simp
         with_reducible rfl
        rotate_left
        ·
         simp only [Act.put, List.setIfInBounds_toArray, List.set_cons_zero, List.set_cons_succ, i64_w, i32_w]
         rfl
        refine pure_ (i := 3) (N := some 22) (v := ?_) (a' := ?_) q30_34 rfl rfl (any_of HT_.out (by kernel_rfl)) (fun _ _ _ h => h) (Or.inl ⟨by rfl, ?_⟩) ?_ ?_
        rotate_left
        ·
         intro w'
         go_simp
         with_reducible rfl
        rotate_left
        ·
         simp only [Act.put, List.setIfInBounds_toArray, List.set_cons_zero, List.set_cons_succ, i64_w, i32_w]
         rfl
        refine pure_ (i := 4) (N := some 23) (v := ?_) (a' := ?_) q30_35 rfl rfl (any_of HT_.out (by kernel_rfl)) (fun _ _ _ h => h) (Or.inl ⟨by rfl, ?_⟩) ?_ ?_
        rotate_left
        ·
         intro w'
         go_simp
         with_reducible rfl
        rotate_left
        ·
         simp only [Act.put, List.setIfInBounds_toArray, List.set_cons_zero, List.set_cons_succ, i64_w, i32_w]
         rfl
        refine pure_ (i := 5) (N := some 24) (v := ?_) (a' := ?_) q30_36 rfl rfl (any_of HT_.out (by kernel_rfl)) (fun _ _ _ h => h) (Or.inl ⟨by rfl, ?_⟩) ?_ ?_
        rotate_left
        ·
         intro w'
         go_simp
         with_reducible rfl
        rotate_left
        ·
         simp only [Act.put, List.setIfInBounds_toArray, List.set_cons_zero, List.set_cons_succ, i64_w, i32_w]
         rfl
        refine take_ (i := 1) (N := some 20) (v := ?_) (a' := ?_) q30_37 rfl rfl (take_ofW HT_.out HW_.out (by kernel_rfl)) (fun _ _ _ h => h) (Or.inl ⟨by rfl, ?_⟩) hHeld ?_ ?_
        rotate_left
        ·
         rintro w' ⟨s0, s1, s2, s3, s4, s5, s6, s7, s8, s9, s10, s11, s12, s13, s14, s15, s16, s17, s18, s19, s20, s21, s22, s23, s24, s25, s26⟩
         go_simp
         with_reducible rfl
        rotate_left
        ·
         simp only [Act.put, List.setIfInBounds_toArray, List.set_cons_zero, List.set_cons_succ, i64_w, i32_w]
         rfl
        refine take_ (i := 6) (N := some 25) (v := ?_) (a' := ?_) q30_38 rfl rfl (take_ofW HT_.out HW_.out (by kernel_rfl)) (fun _ _ _ h => h) (Or.inl ⟨by rfl, ?_⟩) hHeld ?_ ?_
        rotate_left
        ·
         rintro w' ⟨s0, s1, s2, s3, s4, s5, s6, s7, s8, s9, s10, s11, s12, s13, s14, s15, s16, s17, s18, s19, s20, s21, s22, s23, s24, s25, s26⟩
         go_simp
         with_reducible rfl
        rotate_left
        ·
         simp only [Act.put, List.setIfInBounds_toArray, List.set_cons_zero, List.set_cons_succ, i64_w, i32_w]
         rfl
        refine one_ (i := 7) (N := some 26) q30_39 rfl rfl (one_of HT_.out (by kernel_rfl)) (by decide) (fun K hK => ?_)
        refine goes_ Try.func18 (by kernel_rfl) rfl #[.agg #[.int .i64 ((rd_T35 l1 x5_1).f1.f4.f0), .slice A282_13 ((rd_T35 l1 x5_1).f1.f4.f1).length c282_13], .agg #[.int .i64 ((rd_T35 l1 0).f1.f4.f0), .slice A284_13 ((rd_T35 l1 0).f1.f4.f1).length c284_13]] (by rfl) rfl rfl (by (try simp only [List.map_toArray, List.map_cons, List.map_nil]); first | done | rfl | (simp only [List.length_drop, List.length_take]; rfl)) ?_
        with_reducible refine (colloquyref06_Same.calls k1 ((rd_T35 l1 x5_1).f1.f4.f0) _ _ ((rd_T35 l1 x5_1).f1.f4.f1) ((rd_T35 l1 0).f1.f4.f0) _ _ ((rd_T35 l1 0).f1.f4.f1) t285 _ ?side1 ?side2 ?side3 ?side4 A6.out).mono ?_
        (case side1 => repeat (first | exact (Kd.C_below HR282_13.out HB.out) | (with_reducible refine Kd.C_alloc ?_ _) | (with_reducible refine Kd.C_drewN ?_ _) | (with_reducible refine Kd.C_drew ?_)))
        (case side2 => exact HC282_13.out)
        (case side3 => repeat (first | exact (Kd.C_below HR284_13.out HB.out) | (with_reducible refine Kd.C_alloc ?_ _) | (with_reducible refine Kd.C_drewN ?_ _) | (with_reducible refine Kd.C_drew ?_)))
        (case side4 => exact HC284_13.out)
        rintro e w13 ⟨rfl, hb⟩
        refine ⟨_, rfl, ?_⟩
        have n0_ := Aside0.mk (blk_below (g := gb283) (bk BK283) hb)
        have n1_ := Aside0.mk (below_step (gw_ HB) hb)
        clear BK283
        clear HB
        have BK283 := n0_
        have HB := n1_
        clear n0_ n1_
        (try clear hb)
        (try clear hb2)
        (try clear hk)
        (try clear hi)
        refine hK.out _ _ ⟨(blk_cell BK283.out 0).trans rfl, (blk_cell BK283.out 1).trans rfl, (blk_cell BK283.out 2).trans rfl, (blk_cell BK283.out 3).trans rfl, (blk_cell BK283.out 4).trans rfl, (blk_cell BK283.out 5).trans rfl, (blk_cell BK283.out 6).trans rfl, (blk_cell BK283.out 7).trans rfl, (blk_cell BK283.out 8).trans rfl, (blk_cell BK283.out 9).trans rfl, (blk_cell BK283.out 10).trans rfl, (blk_cell BK283.out 11).trans rfl, (blk_cell BK283.out 12).trans rfl, ((HB.out.cell (World.block_lt_of_cell? w _ hw284_0)).trans hw284_0), ((HB.out.cell (World.block_lt_of_cell? w _ hw284_1)).trans hw284_1), ((HB.out.cell (World.block_lt_of_cell? w _ hw284_2)).trans hw284_2), ((HB.out.cell (World.block_lt_of_cell? w _ hw284_3)).trans hw284_3), ((HB.out.cell (World.block_lt_of_cell? w _ hw284_4)).trans hw284_4), ((HB.out.cell (World.block_lt_of_cell? w _ hw284_5)).trans hw284_5), ((HB.out.cell (World.block_lt_of_cell? w _ hw284_6)).trans hw284_6), ((HB.out.cell (World.block_lt_of_cell? w _ hw284_7)).trans hw284_7), ((HB.out.cell (World.block_lt_of_cell? w _ hw284_8)).trans hw284_8), ((HB.out.cell (World.block_lt_of_cell? w _ hw284_9)).trans hw284_9), ((HB.out.cell (World.block_lt_of_cell? w _ hw284_10)).trans hw284_10), ((HB.out.cell (World.block_lt_of_cell? w _ hw284_11)).trans hw284_11), ((HB.out.cell (World.block_lt_of_cell? w _ hw284_12)).trans hw284_12), ((HB.out.cell (World.block_lt_of_cell? w _ hw284_13)).trans hw284_13)⟩ (fun hHeld => ?_)
        clear hK K
        refine norm_ (a' := ?_) ?_ ?_
        rotate_left
        ·
         show Act.put _ (some 26) _ = _
         simp only [Act.put, List.setIfInBounds_toArray, List.set_cons_zero, List.set_cons_succ, i64_w, i32_w]
         rfl
        refine pure_ (i := 8) (N := some 7) (v := ?_) (a' := ?_) q30_40 rfl rfl (any_of HT_.out (by kernel_rfl)) (fun _ _ _ h => h) (Or.inl ⟨by rfl, ?_⟩) ?_ ?_
        rotate_left
        ·
         intro w'
         go_simp
         with_reducible rfl
        rotate_left
        ·
         simp only [Act.put, List.setIfInBounds_toArray, List.set_cons_zero, List.set_cons_succ, i64_w, i32_w]
         rfl
        refine done_ (done_of HT_.out (by kernel_rfl)) ?_
        try go_wp2
        have n0_ := Aside0.mk (blk_drew BK283.out)
        have n1_ := Aside0.mk (below_drew1 HB.out)
        clear BK283
        clear HB
        have BK283 := n0_
        have HB := n1_
        clear n0_ n1_
        refine start_ (n := 24) (S := fun w' => w'.cell? ⟨gb283, 0, none⟩ = some (.int .i64 ((rd_T35 l1 x5_1).f1.f0)) ∧ w'.cell? ⟨gb283, 1, none⟩ = some (.int .i64 ((rd_T35 l1 x5_1).f1.f1.f0)) ∧ w'.cell? ⟨gb283, 2, none⟩ = some (.int .i64 ((rd_T35 l1 x5_1).f1.f1.f1)) ∧ w'.cell? ⟨gb283, 3, none⟩ = some (.int .i64 ((rd_T35 l1 x5_1).f1.f2.f0)) ∧ w'.cell? ⟨gb283, 4, none⟩ = some (.int .i64 ((rd_T35 l1 x5_1).f1.f2.f1)) ∧ w'.cell? ⟨gb283, 5, none⟩ = some (.int .i64 ((rd_T35 l1 x5_1).f1.f3.f0)) ∧ w'.cell? ⟨gb283, 6, none⟩ = some (.int .i64 ((rd_T35 l1 x5_1).f1.f3.f1)) ∧ w'.cell? ⟨gb283, 7, none⟩ = some (.int .i64 ((rd_T35 l1 x5_1).f1.f3.f2)) ∧ w'.cell? ⟨gb283, 8, none⟩ = some (.int .i64 ((rd_T35 l1 x5_1).f1.f3.f3)) ∧ w'.cell? ⟨gb283, 9, none⟩ = some (.int .i64 ((rd_T35 l1 x5_1).f1.f3.f4)) ∧ w'.cell? ⟨gb283, 10, none⟩ = some (.string ((rd_T35 l1 x5_1).f1.f3.f5)) ∧ w'.cell? ⟨gb283, 11, none⟩ = some (.int .i64 ((rd_T35 l1 x5_1).f1.f4.f0)) ∧ w'.cell? ⟨gb283, 12, none⟩ = some (.slice A282_13 ((rd_T35 l1 x5_1).f1.f4.f1).length c282_13)) (ds := []) q30_0 (by kernel_rfl) rfl rfl ⟨(blk_cell BK283.out 0).trans rfl, (blk_cell BK283.out 1).trans rfl, (blk_cell BK283.out 2).trans rfl, (blk_cell BK283.out 3).trans rfl, (blk_cell BK283.out 4).trans rfl, (blk_cell BK283.out 5).trans rfl, (blk_cell BK283.out 6).trans rfl, (blk_cell BK283.out 7).trans rfl, (blk_cell BK283.out 8).trans rfl, (blk_cell BK283.out 9).trans rfl, (blk_cell BK283.out 10).trans rfl, (blk_cell BK283.out 11).trans rfl, (blk_cell BK283.out 12).trans rfl⟩ (fun hHeld => ?_); refine with_tabW colloquyref10_first.tab6 colloquyref10_first.bits6 (fun HT_ HW_ => ?_)
        generalize w13.drew = w14 at BK283 HB hHeld ⊢
        refine pure_ (i := 0) (N := some 27) (v := ?_) (a' := ?_) q30_1 rfl rfl (any_of HT_.out (by kernel_rfl)) (fun _ _ _ h => h) (Or.inl ⟨by rfl, ?_⟩) ?_ ?_
        rotate_left
        ·
         intro w'
         go_simp
         with_reducible rfl
        rotate_left
        ·
         simp only [Act.put, List.setIfInBounds_toArray, List.set_cons_zero, List.set_cons_succ, i64_w, i32_w]
         rfl
        refine take_ (i := 1) (N := some 28) (v := ?_) (a' := ?_) q30_2 rfl rfl (take_ofW HT_.out HW_.out (by kernel_rfl)) (fun _ _ _ h => h) (Or.inl ⟨by rfl, ?_⟩) hHeld ?_ ?_
        rotate_left
        ·
         rintro w' ⟨s0, s1, s2, s3, s4, s5, s6, s7, s8, s9, s10, s11, s12⟩
         go_simp
         with_reducible rfl
        rotate_left
        ·
         simp only [Act.put, List.setIfInBounds_toArray, List.set_cons_zero, List.set_cons_succ, i64_w, i32_w]
         rfl
        refine pure_ (i := 2) (N := some 29) (v := ?_) (a' := ?_) q30_3 rfl rfl (any_of HT_.out (by kernel_rfl)) (fun _ _ _ h => h) (Or.inl ⟨by rfl, ?_⟩) ?_ ?_
        rotate_left
        ·
         intro w'
         go_simp
         with_reducible rfl
        rotate_left
        ·
         simp only [Act.put, List.setIfInBounds_toArray, List.set_cons_zero, List.set_cons_succ, i64_w, i32_w]
         rfl
        refine pure_ (i := 3) (N := some 30) (v := ?_) (a' := ?_) q30_4 rfl rfl (any_of HT_.out (by kernel_rfl)) (fun _ _ _ h => h) (Or.inl ⟨by rfl, ?_⟩) ?_ ?_
        rotate_left
        ·
         intro w'
         go_simp
         with_reducible rfl
        rotate_left
        ·
         simp only [Act.put, List.setIfInBounds_toArray, List.set_cons_zero, List.set_cons_succ, i64_w, i32_w]
         rfl
        refine pure_ (i := 4) (N := some 31) (v := ?_) (a' := ?_) q30_5 rfl rfl (any_of HT_.out (by kernel_rfl)) (fun _ _ _ h => h) (Or.inl ⟨by rfl, ?_⟩) ?_ ?_
        rotate_left
        ·
         intro w'
         go_simp
         with_reducible rfl
        rotate_left
        ·
         simp only [Act.put, List.setIfInBounds_toArray, List.set_cons_zero, List.set_cons_succ, i64_w, i32_w]
         rfl
        refine pure_ (i := 6) (N := some 33) (v := ?_) (a' := ?_) q30_6 rfl rfl (any_of HT_.out (by kernel_rfl)) (fun _ _ _ h => h) (Or.inl ⟨by rfl, ?_⟩) ?_ ?_
        rotate_left
        ·
         intro w'
         go_simp
         with_reducible rfl
        rotate_left
        ·
         simp only [Act.put, List.setIfInBounds_toArray, List.set_cons_zero, List.set_cons_succ, i64_w, i32_w]
         rfl
        refine pure_ (i := 7) (N := some 34) (v := ?_) (a' := ?_) q30_8 rfl rfl (any_of HT_.out (by kernel_rfl)) (fun _ _ _ h => h) (Or.inl ⟨by rfl, ?_⟩) ?_ ?_
        rotate_left
        ·
         intro w'
         go_simp
         with_reducible rfl
        rotate_left
        ·
         simp only [Act.put, List.setIfInBounds_toArray, List.set_cons_zero, List.set_cons_succ, i64_w, i32_w]
         rfl
        refine take_ (i := 5) (N := some 32) (v := ?_) (a' := ?_) q30_10 rfl rfl (take_ofW HT_.out HW_.out (by kernel_rfl)) (fun _ _ _ h => h) (Or.inl ⟨by rfl, ?_⟩) hHeld ?_ ?_
        rotate_left
        ·
         rintro w' ⟨s0, s1, s2, s3, s4, s5, s6, s7, s8, s9, s10, s11, s12⟩
         go_simp
         with_reducible rfl
        rotate_left
        ·
         simp only [Act.put, List.setIfInBounds_toArray, List.set_cons_zero, List.set_cons_succ, i64_w, i32_w]
         rfl
        refine pure_ (i := 8) (N := some 35) (v := ?_) (a' := ?_) q30_11 rfl rfl (any_of HT_.out (by kernel_rfl)) (fun _ _ _ h => h) (Or.inl ⟨by rfl, ?_⟩) ?_ ?_
        rotate_left
        ·
         intro w'
         go_simp
         with_reducible rfl
        rotate_left
        ·
         simp only [Act.put, List.setIfInBounds_toArray, List.set_cons_zero, List.set_cons_succ, i64_w, i32_w]
         rfl
        refine pure_ (i := 9) (N := some 36) (v := ?_) (a' := ?_) q30_12 rfl rfl (any_of HT_.out (by kernel_rfl)) (fun _ _ _ h => h) (Or.inl ⟨by rfl, ?_⟩) ?_ ?_
        rotate_left
        ·
         intro w'
         go_simp
         with_reducible rfl
        rotate_left
        ·
         simp only [Act.put, List.setIfInBounds_toArray, List.set_cons_zero, List.set_cons_succ, i64_w, i32_w]
         rfl
        refine pure_ (i := 10) (N := some 37) (v := ?_) (a' := ?_) q30_13 rfl rfl (any_of HT_.out (by kernel_rfl)) (fun _ _ _ h => h) (Or.inl ⟨by rfl, ?_⟩) ?_ ?_
        rotate_left
        ·
         intro w'
         go_simp
         with_reducible rfl
        rotate_left
        ·
         simp only [Act.put, List.setIfInBounds_toArray, List.set_cons_zero, List.set_cons_succ, i64_w, i32_w]
         rfl
        refine pure_ (i := 11) (N := some 38) (v := undef) (a' := ?_) q30_14 rfl rfl (any_of HT_.out (by kernel_rfl)) (fun _ _ _ h => h) (Or.inr ⟨by rfl, rfl⟩) ?_ ?_
        rotate_left
        ·
         simp only [Act.put, List.setIfInBounds_toArray, List.set_cons_zero, List.set_cons_succ, i64_w, i32_w]
         rfl
        refine pure_ (i := 12) (N := some 39) (v := undef) (a' := ?_) q30_16 rfl rfl (any_of HT_.out (by kernel_rfl)) (fun _ _ _ h => h) (Or.inr ⟨by rfl, rfl⟩) ?_ ?_
        rotate_left
        ·
         simp only [Act.put, List.setIfInBounds_toArray, List.set_cons_zero, List.set_cons_succ, i64_w, i32_w]
         rfl
        refine pure_ (i := 13) (N := some 40) (v := undef) (a' := ?_) q30_18 rfl rfl (any_of HT_.out (by kernel_rfl)) (fun _ _ _ h => h) (Or.inr ⟨by rfl, rfl⟩) ?_ ?_
        rotate_left
        ·
         simp only [Act.put, List.setIfInBounds_toArray, List.set_cons_zero, List.set_cons_succ, i64_w, i32_w]
         rfl
        refine pure_ (i := 14) (N := some 41) (v := undef) (a' := ?_) q30_20 rfl rfl (any_of HT_.out (by kernel_rfl)) (fun _ _ _ h => h) (Or.inr ⟨by rfl, rfl⟩) ?_ ?_
        rotate_left
        ·
         simp only [Act.put, List.setIfInBounds_toArray, List.set_cons_zero, List.set_cons_succ, i64_w, i32_w]
         rfl
        refine pure_ (i := 15) (N := some 42) (v := undef) (a' := ?_) q30_22 rfl rfl (any_of HT_.out (by kernel_rfl)) (fun _ _ _ h => h) (Or.inr ⟨by rfl, rfl⟩) ?_ ?_
        rotate_left
        ·
         simp only [Act.put, List.setIfInBounds_toArray, List.set_cons_zero, List.set_cons_succ, i64_w, i32_w]
         rfl
        refine pure_ (i := 16) (N := some 43) (v := undef) (a' := ?_) q30_23 rfl rfl (any_of HT_.out (by kernel_rfl)) (fun _ _ _ h => h) (Or.inr ⟨by rfl, rfl⟩) ?_ ?_
        rotate_left
        ·
         simp only [Act.put, List.setIfInBounds_toArray, List.set_cons_zero, List.set_cons_succ, i64_w, i32_w]
         rfl
        refine pure_ (i := 17) (N := some 44) (v := undef) (a' := ?_) q30_24 rfl rfl (any_of HT_.out (by kernel_rfl)) (fun _ _ _ h => h) (Or.inr ⟨by rfl, rfl⟩) ?_ ?_
        rotate_left
        ·
         simp only [Act.put, List.setIfInBounds_toArray, List.set_cons_zero, List.set_cons_succ, i64_w, i32_w]
         rfl
        refine pure_ (i := 18) (N := some 45) (v := undef) (a' := ?_) q30_25 rfl rfl (any_of HT_.out (by kernel_rfl)) (fun _ _ _ h => h) (Or.inr ⟨by rfl, rfl⟩) ?_ ?_
        rotate_left
        ·
         simp only [Act.put, List.setIfInBounds_toArray, List.set_cons_zero, List.set_cons_succ, i64_w, i32_w]
         rfl
        refine pure_ (i := 19) (N := some 46) (v := ?_) (a' := ?_) q30_26 rfl rfl (any_of HT_.out (by kernel_rfl)) (fun _ _ _ h => h) (Or.inl ⟨by rfl, ?_⟩) ?_ ?_
        rotate_left
        ·
         intro w'
         go_simp
         with_reducible rfl
        rotate_left
        ·
         simp only [Act.put, List.setIfInBounds_toArray, List.set_cons_zero, List.set_cons_succ, i64_w, i32_w]
         rfl
        refine pure_ (i := 20) (N := some 47) (v := ?_) (a' := ?_) q30_27 rfl rfl (any_of HT_.out (by kernel_rfl)) (fun _ _ _ h => h) (Or.inl ⟨by rfl, ?_⟩) ?_ ?_
        rotate_left
        ·
         intro w'
         go_simp
         with_reducible rfl
        rotate_left
        ·
         simp only [Act.put, List.setIfInBounds_toArray, List.set_cons_zero, List.set_cons_succ, i64_w, i32_w]
         rfl
        refine pure_ (i := 21) (N := some 48) (v := undef) (a' := ?_) q30_28 rfl rfl (any_of HT_.out (by kernel_rfl)) (fun _ _ _ h => h) (Or.inr ⟨by rfl, rfl⟩) ?_ ?_
        rotate_left
        ·
         simp only [Act.put, List.setIfInBounds_toArray, List.set_cons_zero, List.set_cons_succ, i64_w, i32_w]
         rfl
        refine pure_ (i := 22) (N := some 49) (v := undef) (a' := ?_) q30_29 rfl rfl (any_of HT_.out (by kernel_rfl)) (fun _ _ _ h => h) (Or.inr ⟨by rfl, rfl⟩) ?_ ?_
        rotate_left
        ·
         simp only [Act.put, List.setIfInBounds_toArray, List.set_cons_zero, List.set_cons_succ, i64_w, i32_w]
         rfl
        refine pure_ (i := 23) (N := some 50) (v := ?_) (a' := ?_) q30_30 rfl rfl (any_of HT_.out (by kernel_rfl)) (fun _ _ _ h => h) (Or.inl ⟨by rfl, ?_⟩) ?_ ?_
        rotate_left
        ·
         intro w'
         go_simp
         with_reducible rfl
        rotate_left
        ·
         simp only [Act.put, List.setIfInBounds_toArray, List.set_cons_zero, List.set_cons_succ, i64_w, i32_w]
         rfl
        refine done_ (done_of HT_.out (by kernel_rfl)) ?_
        try go_wp2
        go_ret
        exact ⟨by first | rfl | (simp [errW_none, errW_some] <;> rfl) | (simp [*, errW_none, errW_some] <;> rfl), gw_ HB⟩
       ·
        rw [if_neg c8] at H
        have c8b0 : (!(((rd_T35 l1 x5_1).f1.f2.f0) == 0) || (!(((rd_T35 l1 x5_1).f1.f2.f1) == a0))) = false := by simpa using c8
        clear c8
        by_cases c15 : (!(((rd_T35 l1 x5_1).f1.f3.f0) == ((rd_T35 l1 0).f1.f3.f0)) || (!(((rd_T35 l1 x5_1).f1.f3.f1) == ((rd_T35 l1 0).f1.f3.f1)) || (!(((rd_T35 l1 x5_1).f1.f3.f2) == ((rd_T35 l1 0).f1.f3.f2)) || (!(((rd_T35 l1 x5_1).f1.f3.f3) == ((rd_T35 l1 0).f1.f3.f3)) || (!(((rd_T35 l1 x5_1).f1.f3.f4) == ((rd_T35 l1 0).f1.f3.f4)) || (!((((rd_T35 l1 x5_1).f1.f3.f5).toList) == (((rd_T35 l1 0).f1.f3.f5).toList)))))))) = true
        ·
         rw [if_pos c15] at H
         have c15b0 : (!(((rd_T35 l1 x5_1).f1.f3.f0) == ((rd_T35 l1 0).f1.f3.f0)) || (!(((rd_T35 l1 x5_1).f1.f3.f1) == ((rd_T35 l1 0).f1.f3.f1)) || (!(((rd_T35 l1 x5_1).f1.f3.f2) == ((rd_T35 l1 0).f1.f3.f2)) || (!(((rd_T35 l1 x5_1).f1.f3.f3) == ((rd_T35 l1 0).f1.f3.f3)) || (!(((rd_T35 l1 x5_1).f1.f3.f4) == ((rd_T35 l1 0).f1.f3.f4)) || (!((((rd_T35 l1 x5_1).f1.f3.f5).toList) == (((rd_T35 l1 0).f1.f3.f5).toList)))))))) = true := c15
         clear c15
         obtain rfl := Option.some.inj H
         have p282 : 0 ≤ (x5_1 : Int) := of_decide_eq_true (by first | (with_reducible assumption) | assumption)
         have q282 : x5_1 < (l1.length : Int) := of_decide_eq_true (by first | (with_reducible assumption) | assumption)
         obtain ⟨ad282, A282_13, c282_13, e282, hx282_0, hx282_1, hx282_2, hx282_3, hx282_4, hx282_5, hx282_6, hx282_7, hx282_8, hx282_9, hx282_10, hx282_11, hx282_12, hx282_13, hl282_13, hi282_13⟩ := at_T35 HR1.out x5_1 p282 q282
         cases e282
         replace hx282_0 := (HB.out.cell (World.block_lt_of_cell? w _ hx282_0)).trans hx282_0
         replace hx282_1 := (HB.out.cell (World.block_lt_of_cell? w _ hx282_1)).trans hx282_1
         replace hx282_2 := (HB.out.cell (World.block_lt_of_cell? w _ hx282_2)).trans hx282_2
         replace hx282_3 := (HB.out.cell (World.block_lt_of_cell? w _ hx282_3)).trans hx282_3
         replace hx282_4 := (HB.out.cell (World.block_lt_of_cell? w _ hx282_4)).trans hx282_4
         replace hx282_5 := (HB.out.cell (World.block_lt_of_cell? w _ hx282_5)).trans hx282_5
         replace hx282_6 := (HB.out.cell (World.block_lt_of_cell? w _ hx282_6)).trans hx282_6
         replace hx282_7 := (HB.out.cell (World.block_lt_of_cell? w _ hx282_7)).trans hx282_7
         replace hx282_8 := (HB.out.cell (World.block_lt_of_cell? w _ hx282_8)).trans hx282_8
         replace hx282_9 := (HB.out.cell (World.block_lt_of_cell? w _ hx282_9)).trans hx282_9
         replace hx282_10 := (HB.out.cell (World.block_lt_of_cell? w _ hx282_10)).trans hx282_10
         replace hx282_11 := (HB.out.cell (World.block_lt_of_cell? w _ hx282_11)).trans hx282_11
         replace hx282_12 := (HB.out.cell (World.block_lt_of_cell? w _ hx282_12)).trans hx282_12
         replace hx282_13 := (HB.out.cell (World.block_lt_of_cell? w _ hx282_13)).trans hx282_13
         have HR282_13 := Aside0.mk hi282_13
         have HC282_13 := Aside0.mk hl282_13
         clear hi282_13 hl282_13
         replace p282 := eq_true p282
         replace q282 := eq_true q282
         try go_wp2_with (first | ((with_reducible refine gate_dst (N := 6) rfl ?_); refine box_event ?hg (N := 6) ?hd (cs := #[.int .i64 0, .int .i64 0, .int .i64 0, .int .i64 0, .int .i64 0, .int .i64 0, .int .i64 0, .int .i64 0, .int .i64 0, .int .i64 0, .string (⟨#[]⟩ : ByteArray), .int .i64 0, .slice none 0 0]) (t := 33) ?hr ?_; (case hd => rfl); (case hg => rfl); (case hr => first | (go_simp; done) | (go_simp; rfl)); intro gb283 hg w16 hbox hb; have s_ := step_size_ (gw_ HB) hb hg; have n0_ := Aside0.mk s_.1; have n1_ := Aside0.mk (hbox); have n2_ := Aside0.mk s_.2; clear s_; have n3_ := n2_; clear HB; have HB := n0_; have BK283 := n1_; have GW283 := n2_; have GE283 := n3_; clear n0_ n1_ n2_ n3_; clear hb hbox hg; obtain ⟨hcz17_0, hcz17_1, hcz17_2, hcz17_3, hcz17_4, hcz17_5, hcz17_6, hcz17_7, hcz17_8, hcz17_9, hcz17_10, hcz17_11, hcz17_12⟩ := blk_cells13 BK283.out; have hfz17_0 := blk_frozen BK283.out 0; have hfz17_1 := blk_frozen BK283.out 1; have hfz17_2 := blk_frozen BK283.out 2; have hfz17_3 := blk_frozen BK283.out 3; have hfz17_4 := blk_frozen BK283.out 4; have hfz17_5 := blk_frozen BK283.out 5; have hfz17_6 := blk_frozen BK283.out 6; have hfz17_7 := blk_frozen BK283.out 7; have hfz17_8 := blk_frozen BK283.out 8; have hfz17_9 := blk_frozen BK283.out 9; have hfz17_10 := blk_frozen BK283.out 10; have hfz17_11 := blk_frozen BK283.out 11; have hfz17_12 := blk_frozen BK283.out 12))
         have n0_ : Aside0 ((((((((((((((w16.setCell ⟨gb283, 0, none⟩ (.int .i64 ((rd_T35 l1 x5_1).f1.f0))).setCell ⟨gb283, 1, none⟩ (.int .i64 ((rd_T35 l1 x5_1).f1.f1.f0))).setCell ⟨gb283, 2, none⟩ (.int .i64 ((rd_T35 l1 x5_1).f1.f1.f1))).setCell ⟨gb283, 3, none⟩ (.int .i64 ((rd_T35 l1 x5_1).f1.f2.f0))).setCell ⟨gb283, 4, none⟩ (.int .i64 ((rd_T35 l1 x5_1).f1.f2.f1))).setCell ⟨gb283, 5, none⟩ (.int .i64 ((rd_T35 l1 x5_1).f1.f3.f0))).setCell ⟨gb283, 6, none⟩ (.int .i64 ((rd_T35 l1 x5_1).f1.f3.f1))).setCell ⟨gb283, 7, none⟩ (.int .i64 ((rd_T35 l1 x5_1).f1.f3.f2))).setCell ⟨gb283, 8, none⟩ (.int .i64 ((rd_T35 l1 x5_1).f1.f3.f3))).setCell ⟨gb283, 9, none⟩ (.int .i64 ((rd_T35 l1 x5_1).f1.f3.f4))).setCell ⟨gb283, 10, none⟩ (.string ((rd_T35 l1 x5_1).f1.f3.f5))).setCell ⟨gb283, 11, none⟩ (.int .i64 ((rd_T35 l1 x5_1).f1.f4.f0))).setCell ⟨gb283, 12, none⟩ (.slice A282_13 ((rd_T35 l1 x5_1).f1.f4.f1).length c282_13)).heap[gb283]? = some (.cells #[.int .i64 ((rd_T35 l1 x5_1).f1.f0), .int .i64 ((rd_T35 l1 x5_1).f1.f1.f0), .int .i64 ((rd_T35 l1 x5_1).f1.f1.f1), .int .i64 ((rd_T35 l1 x5_1).f1.f2.f0), .int .i64 ((rd_T35 l1 x5_1).f1.f2.f1), .int .i64 ((rd_T35 l1 x5_1).f1.f3.f0), .int .i64 ((rd_T35 l1 x5_1).f1.f3.f1), .int .i64 ((rd_T35 l1 x5_1).f1.f3.f2), .int .i64 ((rd_T35 l1 x5_1).f1.f3.f3), .int .i64 ((rd_T35 l1 x5_1).f1.f3.f4), .string ((rd_T35 l1 x5_1).f1.f3.f5), .int .i64 ((rd_T35 l1 x5_1).f1.f4.f0), .slice A282_13 ((rd_T35 l1 x5_1).f1.f4.f1).length c282_13] 33 (0, 0))) := ⟨by (with_reducible repeat (first | refine blk_drewN ?_ _ | refine blk_drew ?_ | refine blk_alloc ?_ _)); refine blk_put13 (cs := #[.int .i64 0, .int .i64 0, .int .i64 0, .int .i64 0, .int .i64 0, .int .i64 0, .int .i64 0, .int .i64 0, .int .i64 0, .int .i64 0, .string (⟨#[]⟩ : ByteArray), .int .i64 0, .slice none 0 0]) ?_ rfl; (with_reducible repeat (first | refine blk_drewN ?_ _ | refine blk_drew ?_ | refine blk_alloc ?_ _)); exact BK283.out⟩
         have n1_ : Aside0 (Below w.heap.size w (((((((((((((w16.setCell ⟨gb283, 0, none⟩ (.int .i64 ((rd_T35 l1 x5_1).f1.f0))).setCell ⟨gb283, 1, none⟩ (.int .i64 ((rd_T35 l1 x5_1).f1.f1.f0))).setCell ⟨gb283, 2, none⟩ (.int .i64 ((rd_T35 l1 x5_1).f1.f1.f1))).setCell ⟨gb283, 3, none⟩ (.int .i64 ((rd_T35 l1 x5_1).f1.f2.f0))).setCell ⟨gb283, 4, none⟩ (.int .i64 ((rd_T35 l1 x5_1).f1.f2.f1))).setCell ⟨gb283, 5, none⟩ (.int .i64 ((rd_T35 l1 x5_1).f1.f3.f0))).setCell ⟨gb283, 6, none⟩ (.int .i64 ((rd_T35 l1 x5_1).f1.f3.f1))).setCell ⟨gb283, 7, none⟩ (.int .i64 ((rd_T35 l1 x5_1).f1.f3.f2))).setCell ⟨gb283, 8, none⟩ (.int .i64 ((rd_T35 l1 x5_1).f1.f3.f3))).setCell ⟨gb283, 9, none⟩ (.int .i64 ((rd_T35 l1 x5_1).f1.f3.f4))).setCell ⟨gb283, 10, none⟩ (.string ((rd_T35 l1 x5_1).f1.f3.f5))).setCell ⟨gb283, 11, none⟩ (.int .i64 ((rd_T35 l1 x5_1).f1.f4.f0))).setCell ⟨gb283, 12, none⟩ (.slice A282_13 ((rd_T35 l1 x5_1).f1.f4.f1).length c282_13))) := ⟨gw_ HB⟩
         (try clear BK283)
         (try clear HB)
         generalize (((((((((((((w16.setCell ⟨gb283, 0, none⟩ (.int .i64 ((rd_T35 l1 x5_1).f1.f0))).setCell ⟨gb283, 1, none⟩ (.int .i64 ((rd_T35 l1 x5_1).f1.f1.f0))).setCell ⟨gb283, 2, none⟩ (.int .i64 ((rd_T35 l1 x5_1).f1.f1.f1))).setCell ⟨gb283, 3, none⟩ (.int .i64 ((rd_T35 l1 x5_1).f1.f2.f0))).setCell ⟨gb283, 4, none⟩ (.int .i64 ((rd_T35 l1 x5_1).f1.f2.f1))).setCell ⟨gb283, 5, none⟩ (.int .i64 ((rd_T35 l1 x5_1).f1.f3.f0))).setCell ⟨gb283, 6, none⟩ (.int .i64 ((rd_T35 l1 x5_1).f1.f3.f1))).setCell ⟨gb283, 7, none⟩ (.int .i64 ((rd_T35 l1 x5_1).f1.f3.f2))).setCell ⟨gb283, 8, none⟩ (.int .i64 ((rd_T35 l1 x5_1).f1.f3.f3))).setCell ⟨gb283, 9, none⟩ (.int .i64 ((rd_T35 l1 x5_1).f1.f3.f4))).setCell ⟨gb283, 10, none⟩ (.string ((rd_T35 l1 x5_1).f1.f3.f5))).setCell ⟨gb283, 11, none⟩ (.int .i64 ((rd_T35 l1 x5_1).f1.f4.f0))).setCell ⟨gb283, 12, none⟩ (.slice A282_13 ((rd_T35 l1 x5_1).f1.f4.f1).length c282_13)) = w18 at n0_ n1_ ⊢
         have BK283 := n0_
         have HB := n1_
         clear n0_ n1_
         have n0_ := Aside0.mk (blk_drew BK283.out)
         have n1_ := Aside0.mk (below_drew1 HB.out)
         clear BK283
         clear HB
         have BK283 := n0_
         have HB := n1_
         clear n0_ n1_
         have p284 : 0 ≤ (0 : Int) := (by omega)
         have q284 : 0 < (l1.length : Int) := of_decide_eq_true (by first | (with_reducible assumption) | assumption)
         obtain ⟨ad284, A284_13, c284_13, e284, hx284_0, hx284_1, hx284_2, hx284_3, hx284_4, hx284_5, hx284_6, hx284_7, hx284_8, hx284_9, hx284_10, hx284_11, hx284_12, hx284_13, hl284_13, hi284_13⟩ := at_T35 HR1.out 0 p284 q284
         have hw284_13 := hx284_13
         (try rw [show ((0 : Int)).toNat = 0 from rfl] at hw284_13)
         (try rw [show 0 * 14 = 0 from rfl] at hw284_13)
         (try rw [Addr.add_zero'] at hw284_13)
         have hw284_12 := hx284_12
         (try rw [show ((0 : Int)).toNat = 0 from rfl] at hw284_12)
         (try rw [show 0 * 14 = 0 from rfl] at hw284_12)
         (try rw [Addr.add_zero'] at hw284_12)
         have hw284_11 := hx284_11
         (try rw [show ((0 : Int)).toNat = 0 from rfl] at hw284_11)
         (try rw [show 0 * 14 = 0 from rfl] at hw284_11)
         (try rw [Addr.add_zero'] at hw284_11)
         have hw284_10 := hx284_10
         (try rw [show ((0 : Int)).toNat = 0 from rfl] at hw284_10)
         (try rw [show 0 * 14 = 0 from rfl] at hw284_10)
         (try rw [Addr.add_zero'] at hw284_10)
         have hw284_9 := hx284_9
         (try rw [show ((0 : Int)).toNat = 0 from rfl] at hw284_9)
         (try rw [show 0 * 14 = 0 from rfl] at hw284_9)
         (try rw [Addr.add_zero'] at hw284_9)
         have hw284_8 := hx284_8
         (try rw [show ((0 : Int)).toNat = 0 from rfl] at hw284_8)
         (try rw [show 0 * 14 = 0 from rfl] at hw284_8)
         (try rw [Addr.add_zero'] at hw284_8)
         have hw284_7 := hx284_7
         (try rw [show ((0 : Int)).toNat = 0 from rfl] at hw284_7)
         (try rw [show 0 * 14 = 0 from rfl] at hw284_7)
         (try rw [Addr.add_zero'] at hw284_7)
         have hw284_6 := hx284_6
         (try rw [show ((0 : Int)).toNat = 0 from rfl] at hw284_6)
         (try rw [show 0 * 14 = 0 from rfl] at hw284_6)
         (try rw [Addr.add_zero'] at hw284_6)
         have hw284_5 := hx284_5
         (try rw [show ((0 : Int)).toNat = 0 from rfl] at hw284_5)
         (try rw [show 0 * 14 = 0 from rfl] at hw284_5)
         (try rw [Addr.add_zero'] at hw284_5)
         have hw284_4 := hx284_4
         (try rw [show ((0 : Int)).toNat = 0 from rfl] at hw284_4)
         (try rw [show 0 * 14 = 0 from rfl] at hw284_4)
         (try rw [Addr.add_zero'] at hw284_4)
         have hw284_3 := hx284_3
         (try rw [show ((0 : Int)).toNat = 0 from rfl] at hw284_3)
         (try rw [show 0 * 14 = 0 from rfl] at hw284_3)
         (try rw [Addr.add_zero'] at hw284_3)
         have hw284_2 := hx284_2
         (try rw [show ((0 : Int)).toNat = 0 from rfl] at hw284_2)
         (try rw [show 0 * 14 = 0 from rfl] at hw284_2)
         (try rw [Addr.add_zero'] at hw284_2)
         have hw284_1 := hx284_1
         (try rw [show ((0 : Int)).toNat = 0 from rfl] at hw284_1)
         (try rw [show 0 * 14 = 0 from rfl] at hw284_1)
         (try rw [Addr.add_zero'] at hw284_1)
         have hw284_0 := hx284_0
         (try rw [show ((0 : Int)).toNat = 0 from rfl] at hw284_0)
         (try rw [show 0 * 14 = 0 from rfl] at hw284_0)
         (try rw [Addr.add_zero'] at hw284_0)
         obtain rfl : ad282 = ad284 := (by injection e284)
         have qi284 : (0 < l1.length) = True := eq_true (by omega)
         (try rw [show ((0 : Int)).toNat = 0 from rfl] at hx284_0)
         (try rw [show 0 * 14 = 0 from rfl] at hx284_0)
         (try rw [Addr.add_zero'] at hx284_0)
         (try rw [show ((0 : Int)).toNat = 0 from rfl] at hx284_1)
         (try rw [show 0 * 14 = 0 from rfl] at hx284_1)
         (try rw [Addr.add_zero'] at hx284_1)
         (try rw [show ((0 : Int)).toNat = 0 from rfl] at hx284_2)
         (try rw [show 0 * 14 = 0 from rfl] at hx284_2)
         (try rw [Addr.add_zero'] at hx284_2)
         (try rw [show ((0 : Int)).toNat = 0 from rfl] at hx284_3)
         (try rw [show 0 * 14 = 0 from rfl] at hx284_3)
         (try rw [Addr.add_zero'] at hx284_3)
         (try rw [show ((0 : Int)).toNat = 0 from rfl] at hx284_4)
         (try rw [show 0 * 14 = 0 from rfl] at hx284_4)
         (try rw [Addr.add_zero'] at hx284_4)
         (try rw [show ((0 : Int)).toNat = 0 from rfl] at hx284_5)
         (try rw [show 0 * 14 = 0 from rfl] at hx284_5)
         (try rw [Addr.add_zero'] at hx284_5)
         (try rw [show ((0 : Int)).toNat = 0 from rfl] at hx284_6)
         (try rw [show 0 * 14 = 0 from rfl] at hx284_6)
         (try rw [Addr.add_zero'] at hx284_6)
         (try rw [show ((0 : Int)).toNat = 0 from rfl] at hx284_7)
         (try rw [show 0 * 14 = 0 from rfl] at hx284_7)
         (try rw [Addr.add_zero'] at hx284_7)
         (try rw [show ((0 : Int)).toNat = 0 from rfl] at hx284_8)
         (try rw [show 0 * 14 = 0 from rfl] at hx284_8)
         (try rw [Addr.add_zero'] at hx284_8)
         (try rw [show ((0 : Int)).toNat = 0 from rfl] at hx284_9)
         (try rw [show 0 * 14 = 0 from rfl] at hx284_9)
         (try rw [Addr.add_zero'] at hx284_9)
         (try rw [show ((0 : Int)).toNat = 0 from rfl] at hx284_10)
         (try rw [show 0 * 14 = 0 from rfl] at hx284_10)
         (try rw [Addr.add_zero'] at hx284_10)
         (try rw [show ((0 : Int)).toNat = 0 from rfl] at hx284_11)
         (try rw [show 0 * 14 = 0 from rfl] at hx284_11)
         (try rw [Addr.add_zero'] at hx284_11)
         (try rw [show ((0 : Int)).toNat = 0 from rfl] at hx284_12)
         (try rw [show 0 * 14 = 0 from rfl] at hx284_12)
         (try rw [Addr.add_zero'] at hx284_12)
         (try rw [show ((0 : Int)).toNat = 0 from rfl] at hx284_13)
         (try rw [show 0 * 14 = 0 from rfl] at hx284_13)
         (try rw [Addr.add_zero'] at hx284_13)
         replace hx284_0 := (HB.out.cell (World.block_lt_of_cell? w _ hx284_0)).trans hx284_0
         replace hx284_1 := (HB.out.cell (World.block_lt_of_cell? w _ hx284_1)).trans hx284_1
         replace hx284_2 := (HB.out.cell (World.block_lt_of_cell? w _ hx284_2)).trans hx284_2
         replace hx284_3 := (HB.out.cell (World.block_lt_of_cell? w _ hx284_3)).trans hx284_3
         replace hx284_4 := (HB.out.cell (World.block_lt_of_cell? w _ hx284_4)).trans hx284_4
         replace hx284_5 := (HB.out.cell (World.block_lt_of_cell? w _ hx284_5)).trans hx284_5
         replace hx284_6 := (HB.out.cell (World.block_lt_of_cell? w _ hx284_6)).trans hx284_6
         replace hx284_7 := (HB.out.cell (World.block_lt_of_cell? w _ hx284_7)).trans hx284_7
         replace hx284_8 := (HB.out.cell (World.block_lt_of_cell? w _ hx284_8)).trans hx284_8
         replace hx284_9 := (HB.out.cell (World.block_lt_of_cell? w _ hx284_9)).trans hx284_9
         replace hx284_10 := (HB.out.cell (World.block_lt_of_cell? w _ hx284_10)).trans hx284_10
         replace hx284_11 := (HB.out.cell (World.block_lt_of_cell? w _ hx284_11)).trans hx284_11
         replace hx284_12 := (HB.out.cell (World.block_lt_of_cell? w _ hx284_12)).trans hx284_12
         replace hx284_13 := (HB.out.cell (World.block_lt_of_cell? w _ hx284_13)).trans hx284_13
         have HR284_13 := Aside0.mk hi284_13
         have HC284_13 := Aside0.mk hl284_13
         clear hi284_13 hl284_13
         replace p284 := eq_true p284
         replace q284 := eq_true q284
         refine start_ (n := 9) (S := fun w' => w'.cell? ⟨gb283, 0, none⟩ = some (.int .i64 ((rd_T35 l1 x5_1).f1.f0)) ∧ w'.cell? ⟨gb283, 1, none⟩ = some (.int .i64 ((rd_T35 l1 x5_1).f1.f1.f0)) ∧ w'.cell? ⟨gb283, 2, none⟩ = some (.int .i64 ((rd_T35 l1 x5_1).f1.f1.f1)) ∧ w'.cell? ⟨gb283, 3, none⟩ = some (.int .i64 ((rd_T35 l1 x5_1).f1.f2.f0)) ∧ w'.cell? ⟨gb283, 4, none⟩ = some (.int .i64 ((rd_T35 l1 x5_1).f1.f2.f1)) ∧ w'.cell? ⟨gb283, 5, none⟩ = some (.int .i64 ((rd_T35 l1 x5_1).f1.f3.f0)) ∧ w'.cell? ⟨gb283, 6, none⟩ = some (.int .i64 ((rd_T35 l1 x5_1).f1.f3.f1)) ∧ w'.cell? ⟨gb283, 7, none⟩ = some (.int .i64 ((rd_T35 l1 x5_1).f1.f3.f2)) ∧ w'.cell? ⟨gb283, 8, none⟩ = some (.int .i64 ((rd_T35 l1 x5_1).f1.f3.f3)) ∧ w'.cell? ⟨gb283, 9, none⟩ = some (.int .i64 ((rd_T35 l1 x5_1).f1.f3.f4)) ∧ w'.cell? ⟨gb283, 10, none⟩ = some (.string ((rd_T35 l1 x5_1).f1.f3.f5)) ∧ w'.cell? ⟨gb283, 11, none⟩ = some (.int .i64 ((rd_T35 l1 x5_1).f1.f4.f0)) ∧ w'.cell? ⟨gb283, 12, none⟩ = some (.slice A282_13 ((rd_T35 l1 x5_1).f1.f4.f1).length c282_13) ∧ w'.cell? ad282 = some (.int .i64 ((rd_T35 l1 0).f0)) ∧ w'.cell? ⟨ad282.block, ad282.off + 1, none⟩ = some (.int .i64 ((rd_T35 l1 0).f1.f0)) ∧ w'.cell? ⟨ad282.block, ad282.off + 2, none⟩ = some (.int .i64 ((rd_T35 l1 0).f1.f1.f0)) ∧ w'.cell? ⟨ad282.block, ad282.off + 3, none⟩ = some (.int .i64 ((rd_T35 l1 0).f1.f1.f1)) ∧ w'.cell? ⟨ad282.block, ad282.off + 4, none⟩ = some (.int .i64 ((rd_T35 l1 0).f1.f2.f0)) ∧ w'.cell? ⟨ad282.block, ad282.off + 5, none⟩ = some (.int .i64 ((rd_T35 l1 0).f1.f2.f1)) ∧ w'.cell? ⟨ad282.block, ad282.off + 6, none⟩ = some (.int .i64 ((rd_T35 l1 0).f1.f3.f0)) ∧ w'.cell? ⟨ad282.block, ad282.off + 7, none⟩ = some (.int .i64 ((rd_T35 l1 0).f1.f3.f1)) ∧ w'.cell? ⟨ad282.block, ad282.off + 8, none⟩ = some (.int .i64 ((rd_T35 l1 0).f1.f3.f2)) ∧ w'.cell? ⟨ad282.block, ad282.off + 9, none⟩ = some (.int .i64 ((rd_T35 l1 0).f1.f3.f3)) ∧ w'.cell? ⟨ad282.block, ad282.off + 10, none⟩ = some (.int .i64 ((rd_T35 l1 0).f1.f3.f4)) ∧ w'.cell? ⟨ad282.block, ad282.off + 11, none⟩ = some (.string ((rd_T35 l1 0).f1.f3.f5)) ∧ w'.cell? ⟨ad282.block, ad282.off + 12, none⟩ = some (.int .i64 ((rd_T35 l1 0).f1.f4.f0)) ∧ w'.cell? ⟨ad282.block, ad282.off + 13, none⟩ = some (.slice A284_13 ((rd_T35 l1 0).f1.f4.f1).length c284_13)) (ds := []) q30_31 (by kernel_rfl) rfl rfl ⟨(blk_cell BK283.out 0).trans rfl, (blk_cell BK283.out 1).trans rfl, (blk_cell BK283.out 2).trans rfl, (blk_cell BK283.out 3).trans rfl, (blk_cell BK283.out 4).trans rfl, (blk_cell BK283.out 5).trans rfl, (blk_cell BK283.out 6).trans rfl, (blk_cell BK283.out 7).trans rfl, (blk_cell BK283.out 8).trans rfl, (blk_cell BK283.out 9).trans rfl, (blk_cell BK283.out 10).trans rfl, (blk_cell BK283.out 11).trans rfl, (blk_cell BK283.out 12).trans rfl, ((HB.out.cell (World.block_lt_of_cell? w _ hw284_0)).trans hw284_0), ((HB.out.cell (World.block_lt_of_cell? w _ hw284_1)).trans hw284_1), ((HB.out.cell (World.block_lt_of_cell? w _ hw284_2)).trans hw284_2), ((HB.out.cell (World.block_lt_of_cell? w _ hw284_3)).trans hw284_3), ((HB.out.cell (World.block_lt_of_cell? w _ hw284_4)).trans hw284_4), ((HB.out.cell (World.block_lt_of_cell? w _ hw284_5)).trans hw284_5), ((HB.out.cell (World.block_lt_of_cell? w _ hw284_6)).trans hw284_6), ((HB.out.cell (World.block_lt_of_cell? w _ hw284_7)).trans hw284_7), ((HB.out.cell (World.block_lt_of_cell? w _ hw284_8)).trans hw284_8), ((HB.out.cell (World.block_lt_of_cell? w _ hw284_9)).trans hw284_9), ((HB.out.cell (World.block_lt_of_cell? w _ hw284_10)).trans hw284_10), ((HB.out.cell (World.block_lt_of_cell? w _ hw284_11)).trans hw284_11), ((HB.out.cell (World.block_lt_of_cell? w _ hw284_12)).trans hw284_12), ((HB.out.cell (World.block_lt_of_cell? w _ hw284_13)).trans hw284_13)⟩ (fun hHeld => ?_); refine with_tabW colloquyref10_first.tab5 colloquyref10_first.bits5 (fun HT_ HW_ => ?_)
         generalize w18.drew = w19 at BK283 HB HR284_13 hx284_0 hx284_1 hx284_10 hx284_11 hx284_12 hx284_13 hx284_2 hx284_3 hx284_4 hx284_5 hx284_6 hx284_7 hx284_8 hx284_9 hHeld ⊢
         refine pure_ (i := 0) (N := some 19) (v := ?_) (a' := ?_) q30_32 rfl rfl (any_of HT_.out (by kernel_rfl)) (fun _ _ _ h => h) (Or.inl ⟨by rfl, ?_⟩) ?_ ?_
         rotate_left
         ·
          intro w'
          go_simp
          with_reducible rfl
         rotate_left
         ·
          simp only [Act.put, List.setIfInBounds_toArray, List.set_cons_zero, List.set_cons_succ, i64_w, i32_w]
          rfl
         refine pure_ (i := 2) (N := some 21) (v := ?_) (a' := ?_) q30_33 rfl rfl (any_of HT_.out (by kernel_rfl)) (fun _ _ _ h => h) (Or.inl ⟨by rfl, ?_⟩) ?_ ?_
         rotate_left
         ·
          intro w'
          go_simp
          with_reducible rfl
         rotate_left
         ·
          simp only [Act.put, List.setIfInBounds_toArray, List.set_cons_zero, List.set_cons_succ, i64_w, i32_w]
          rfl
         refine pure_ (i := 3) (N := some 22) (v := ?_) (a' := ?_) q30_34 rfl rfl (any_of HT_.out (by kernel_rfl)) (fun _ _ _ h => h) (Or.inl ⟨by rfl, ?_⟩) ?_ ?_
         rotate_left
         ·
          intro w'
          go_simp
          with_reducible rfl
         rotate_left
         ·
          simp only [Act.put, List.setIfInBounds_toArray, List.set_cons_zero, List.set_cons_succ, i64_w, i32_w]
          rfl
         refine pure_ (i := 4) (N := some 23) (v := ?_) (a' := ?_) q30_35 rfl rfl (any_of HT_.out (by kernel_rfl)) (fun _ _ _ h => h) (Or.inl ⟨by rfl, ?_⟩) ?_ ?_
         rotate_left
         ·
          intro w'
          go_simp
          with_reducible rfl
         rotate_left
         ·
          simp only [Act.put, List.setIfInBounds_toArray, List.set_cons_zero, List.set_cons_succ, i64_w, i32_w]
          rfl
         refine pure_ (i := 5) (N := some 24) (v := ?_) (a' := ?_) q30_36 rfl rfl (any_of HT_.out (by kernel_rfl)) (fun _ _ _ h => h) (Or.inl ⟨by rfl, ?_⟩) ?_ ?_
         rotate_left
         ·
          intro w'
          go_simp
          with_reducible rfl
         rotate_left
         ·
          simp only [Act.put, List.setIfInBounds_toArray, List.set_cons_zero, List.set_cons_succ, i64_w, i32_w]
          rfl
         refine take_ (i := 1) (N := some 20) (v := ?_) (a' := ?_) q30_37 rfl rfl (take_ofW HT_.out HW_.out (by kernel_rfl)) (fun _ _ _ h => h) (Or.inl ⟨by rfl, ?_⟩) hHeld ?_ ?_
         rotate_left
         ·
          rintro w' ⟨s0, s1, s2, s3, s4, s5, s6, s7, s8, s9, s10, s11, s12, s13, s14, s15, s16, s17, s18, s19, s20, s21, s22, s23, s24, s25, s26⟩
          go_simp
          with_reducible rfl
         rotate_left
         ·
          simp only [Act.put, List.setIfInBounds_toArray, List.set_cons_zero, List.set_cons_succ, i64_w, i32_w]
          rfl
         refine take_ (i := 6) (N := some 25) (v := ?_) (a' := ?_) q30_38 rfl rfl (take_ofW HT_.out HW_.out (by kernel_rfl)) (fun _ _ _ h => h) (Or.inl ⟨by rfl, ?_⟩) hHeld ?_ ?_
         rotate_left
         ·
          rintro w' ⟨s0, s1, s2, s3, s4, s5, s6, s7, s8, s9, s10, s11, s12, s13, s14, s15, s16, s17, s18, s19, s20, s21, s22, s23, s24, s25, s26⟩
          go_simp
          with_reducible rfl
         rotate_left
         ·
          simp only [Act.put, List.setIfInBounds_toArray, List.set_cons_zero, List.set_cons_succ, i64_w, i32_w]
          rfl
         refine one_ (i := 7) (N := some 26) q30_39 rfl rfl (one_of HT_.out (by kernel_rfl)) (by decide) (fun K hK => ?_)
         refine goes_ Try.func18 (by kernel_rfl) rfl #[.agg #[.int .i64 ((rd_T35 l1 x5_1).f1.f4.f0), .slice A282_13 ((rd_T35 l1 x5_1).f1.f4.f1).length c282_13], .agg #[.int .i64 ((rd_T35 l1 0).f1.f4.f0), .slice A284_13 ((rd_T35 l1 0).f1.f4.f1).length c284_13]] (by rfl) rfl rfl (by (try simp only [List.map_toArray, List.map_cons, List.map_nil]); first | done | rfl | (simp only [List.length_drop, List.length_take]; rfl)) ?_
         with_reducible refine (colloquyref06_Same.calls k1 ((rd_T35 l1 x5_1).f1.f4.f0) _ _ ((rd_T35 l1 x5_1).f1.f4.f1) ((rd_T35 l1 0).f1.f4.f0) _ _ ((rd_T35 l1 0).f1.f4.f1) t285 _ ?side1 ?side2 ?side3 ?side4 A6.out).mono ?_
         (case side1 => repeat (first | exact (Kd.C_below HR282_13.out HB.out) | (with_reducible refine Kd.C_alloc ?_ _) | (with_reducible refine Kd.C_drewN ?_ _) | (with_reducible refine Kd.C_drew ?_)))
         (case side2 => exact HC282_13.out)
         (case side3 => repeat (first | exact (Kd.C_below HR284_13.out HB.out) | (with_reducible refine Kd.C_alloc ?_ _) | (with_reducible refine Kd.C_drewN ?_ _) | (with_reducible refine Kd.C_drew ?_)))
         (case side4 => exact HC284_13.out)
         rintro e w20 ⟨rfl, hb⟩
         refine ⟨_, rfl, ?_⟩
         have n0_ := Aside0.mk (blk_below (g := gb283) (bk BK283) hb)
         have n1_ := Aside0.mk (below_step (gw_ HB) hb)
         clear BK283
         clear HB
         have BK283 := n0_
         have HB := n1_
         clear n0_ n1_
         (try clear hb)
         (try clear hb2)
         (try clear hk)
         (try clear hi)
         refine hK.out _ _ ⟨(blk_cell BK283.out 0).trans rfl, (blk_cell BK283.out 1).trans rfl, (blk_cell BK283.out 2).trans rfl, (blk_cell BK283.out 3).trans rfl, (blk_cell BK283.out 4).trans rfl, (blk_cell BK283.out 5).trans rfl, (blk_cell BK283.out 6).trans rfl, (blk_cell BK283.out 7).trans rfl, (blk_cell BK283.out 8).trans rfl, (blk_cell BK283.out 9).trans rfl, (blk_cell BK283.out 10).trans rfl, (blk_cell BK283.out 11).trans rfl, (blk_cell BK283.out 12).trans rfl, ((HB.out.cell (World.block_lt_of_cell? w _ hw284_0)).trans hw284_0), ((HB.out.cell (World.block_lt_of_cell? w _ hw284_1)).trans hw284_1), ((HB.out.cell (World.block_lt_of_cell? w _ hw284_2)).trans hw284_2), ((HB.out.cell (World.block_lt_of_cell? w _ hw284_3)).trans hw284_3), ((HB.out.cell (World.block_lt_of_cell? w _ hw284_4)).trans hw284_4), ((HB.out.cell (World.block_lt_of_cell? w _ hw284_5)).trans hw284_5), ((HB.out.cell (World.block_lt_of_cell? w _ hw284_6)).trans hw284_6), ((HB.out.cell (World.block_lt_of_cell? w _ hw284_7)).trans hw284_7), ((HB.out.cell (World.block_lt_of_cell? w _ hw284_8)).trans hw284_8), ((HB.out.cell (World.block_lt_of_cell? w _ hw284_9)).trans hw284_9), ((HB.out.cell (World.block_lt_of_cell? w _ hw284_10)).trans hw284_10), ((HB.out.cell (World.block_lt_of_cell? w _ hw284_11)).trans hw284_11), ((HB.out.cell (World.block_lt_of_cell? w _ hw284_12)).trans hw284_12), ((HB.out.cell (World.block_lt_of_cell? w _ hw284_13)).trans hw284_13)⟩ (fun hHeld => ?_)
         clear hK K
         refine norm_ (a' := ?_) ?_ ?_
         rotate_left
         ·
          show Act.put _ (some 26) _ = _
          simp only [Act.put, List.setIfInBounds_toArray, List.set_cons_zero, List.set_cons_succ, i64_w, i32_w]
          rfl
         refine pure_ (i := 8) (N := some 7) (v := ?_) (a' := ?_) q30_40 rfl rfl (any_of HT_.out (by kernel_rfl)) (fun _ _ _ h => h) (Or.inl ⟨by rfl, ?_⟩) ?_ ?_
         rotate_left
         ·
          intro w'
          go_simp
          with_reducible rfl
         rotate_left
         ·
          simp only [Act.put, List.setIfInBounds_toArray, List.set_cons_zero, List.set_cons_succ, i64_w, i32_w]
          rfl
         refine done_ (done_of HT_.out (by kernel_rfl)) ?_
         try go_wp2
         have n0_ := Aside0.mk (blk_drew BK283.out)
         have n1_ := Aside0.mk (below_drew1 HB.out)
         clear BK283
         clear HB
         have BK283 := n0_
         have HB := n1_
         clear n0_ n1_
         have p286 : 0 ≤ (0 : Int) := (by omega)
         have q286 : 0 < (l1.length : Int) := of_decide_eq_true (by first | (with_reducible assumption) | assumption)
         obtain ⟨ad286, A286_13, c286_13, e286, hx286_0, hx286_1, hx286_2, hx286_3, hx286_4, hx286_5, hx286_6, hx286_7, hx286_8, hx286_9, hx286_10, hx286_11, hx286_12, hx286_13, hl286_13, hi286_13⟩ := at_T35 HR1.out 0 p286 q286
         have hw286_13 := hx286_13
         (try rw [show ((0 : Int)).toNat = 0 from rfl] at hw286_13)
         (try rw [show 0 * 14 = 0 from rfl] at hw286_13)
         (try rw [Addr.add_zero'] at hw286_13)
         have hw286_12 := hx286_12
         (try rw [show ((0 : Int)).toNat = 0 from rfl] at hw286_12)
         (try rw [show 0 * 14 = 0 from rfl] at hw286_12)
         (try rw [Addr.add_zero'] at hw286_12)
         have hw286_11 := hx286_11
         (try rw [show ((0 : Int)).toNat = 0 from rfl] at hw286_11)
         (try rw [show 0 * 14 = 0 from rfl] at hw286_11)
         (try rw [Addr.add_zero'] at hw286_11)
         have hw286_10 := hx286_10
         (try rw [show ((0 : Int)).toNat = 0 from rfl] at hw286_10)
         (try rw [show 0 * 14 = 0 from rfl] at hw286_10)
         (try rw [Addr.add_zero'] at hw286_10)
         have hw286_9 := hx286_9
         (try rw [show ((0 : Int)).toNat = 0 from rfl] at hw286_9)
         (try rw [show 0 * 14 = 0 from rfl] at hw286_9)
         (try rw [Addr.add_zero'] at hw286_9)
         have hw286_8 := hx286_8
         (try rw [show ((0 : Int)).toNat = 0 from rfl] at hw286_8)
         (try rw [show 0 * 14 = 0 from rfl] at hw286_8)
         (try rw [Addr.add_zero'] at hw286_8)
         have hw286_7 := hx286_7
         (try rw [show ((0 : Int)).toNat = 0 from rfl] at hw286_7)
         (try rw [show 0 * 14 = 0 from rfl] at hw286_7)
         (try rw [Addr.add_zero'] at hw286_7)
         have hw286_6 := hx286_6
         (try rw [show ((0 : Int)).toNat = 0 from rfl] at hw286_6)
         (try rw [show 0 * 14 = 0 from rfl] at hw286_6)
         (try rw [Addr.add_zero'] at hw286_6)
         have hw286_5 := hx286_5
         (try rw [show ((0 : Int)).toNat = 0 from rfl] at hw286_5)
         (try rw [show 0 * 14 = 0 from rfl] at hw286_5)
         (try rw [Addr.add_zero'] at hw286_5)
         have hw286_4 := hx286_4
         (try rw [show ((0 : Int)).toNat = 0 from rfl] at hw286_4)
         (try rw [show 0 * 14 = 0 from rfl] at hw286_4)
         (try rw [Addr.add_zero'] at hw286_4)
         have hw286_3 := hx286_3
         (try rw [show ((0 : Int)).toNat = 0 from rfl] at hw286_3)
         (try rw [show 0 * 14 = 0 from rfl] at hw286_3)
         (try rw [Addr.add_zero'] at hw286_3)
         have hw286_2 := hx286_2
         (try rw [show ((0 : Int)).toNat = 0 from rfl] at hw286_2)
         (try rw [show 0 * 14 = 0 from rfl] at hw286_2)
         (try rw [Addr.add_zero'] at hw286_2)
         have hw286_1 := hx286_1
         (try rw [show ((0 : Int)).toNat = 0 from rfl] at hw286_1)
         (try rw [show 0 * 14 = 0 from rfl] at hw286_1)
         (try rw [Addr.add_zero'] at hw286_1)
         have hw286_0 := hx286_0
         (try rw [show ((0 : Int)).toNat = 0 from rfl] at hw286_0)
         (try rw [show 0 * 14 = 0 from rfl] at hw286_0)
         (try rw [Addr.add_zero'] at hw286_0)
         obtain rfl : ad282 = ad286 := (by injection e286)
         have qi286 : (0 < l1.length) = True := eq_true (by omega)
         (try rw [show ((0 : Int)).toNat = 0 from rfl] at hx286_0)
         (try rw [show 0 * 14 = 0 from rfl] at hx286_0)
         (try rw [Addr.add_zero'] at hx286_0)
         (try rw [show ((0 : Int)).toNat = 0 from rfl] at hx286_1)
         (try rw [show 0 * 14 = 0 from rfl] at hx286_1)
         (try rw [Addr.add_zero'] at hx286_1)
         (try rw [show ((0 : Int)).toNat = 0 from rfl] at hx286_2)
         (try rw [show 0 * 14 = 0 from rfl] at hx286_2)
         (try rw [Addr.add_zero'] at hx286_2)
         (try rw [show ((0 : Int)).toNat = 0 from rfl] at hx286_3)
         (try rw [show 0 * 14 = 0 from rfl] at hx286_3)
         (try rw [Addr.add_zero'] at hx286_3)
         (try rw [show ((0 : Int)).toNat = 0 from rfl] at hx286_4)
         (try rw [show 0 * 14 = 0 from rfl] at hx286_4)
         (try rw [Addr.add_zero'] at hx286_4)
         (try rw [show ((0 : Int)).toNat = 0 from rfl] at hx286_5)
         (try rw [show 0 * 14 = 0 from rfl] at hx286_5)
         (try rw [Addr.add_zero'] at hx286_5)
         (try rw [show ((0 : Int)).toNat = 0 from rfl] at hx286_6)
         (try rw [show 0 * 14 = 0 from rfl] at hx286_6)
         (try rw [Addr.add_zero'] at hx286_6)
         (try rw [show ((0 : Int)).toNat = 0 from rfl] at hx286_7)
         (try rw [show 0 * 14 = 0 from rfl] at hx286_7)
         (try rw [Addr.add_zero'] at hx286_7)
         (try rw [show ((0 : Int)).toNat = 0 from rfl] at hx286_8)
         (try rw [show 0 * 14 = 0 from rfl] at hx286_8)
         (try rw [Addr.add_zero'] at hx286_8)
         (try rw [show ((0 : Int)).toNat = 0 from rfl] at hx286_9)
         (try rw [show 0 * 14 = 0 from rfl] at hx286_9)
         (try rw [Addr.add_zero'] at hx286_9)
         (try rw [show ((0 : Int)).toNat = 0 from rfl] at hx286_10)
         (try rw [show 0 * 14 = 0 from rfl] at hx286_10)
         (try rw [Addr.add_zero'] at hx286_10)
         (try rw [show ((0 : Int)).toNat = 0 from rfl] at hx286_11)
         (try rw [show 0 * 14 = 0 from rfl] at hx286_11)
         (try rw [Addr.add_zero'] at hx286_11)
         (try rw [show ((0 : Int)).toNat = 0 from rfl] at hx286_12)
         (try rw [show 0 * 14 = 0 from rfl] at hx286_12)
         (try rw [Addr.add_zero'] at hx286_12)
         (try rw [show ((0 : Int)).toNat = 0 from rfl] at hx286_13)
         (try rw [show 0 * 14 = 0 from rfl] at hx286_13)
         (try rw [Addr.add_zero'] at hx286_13)
         replace hx286_0 := (HB.out.cell (World.block_lt_of_cell? w _ hx286_0)).trans hx286_0
         replace hx286_1 := (HB.out.cell (World.block_lt_of_cell? w _ hx286_1)).trans hx286_1
         replace hx286_2 := (HB.out.cell (World.block_lt_of_cell? w _ hx286_2)).trans hx286_2
         replace hx286_3 := (HB.out.cell (World.block_lt_of_cell? w _ hx286_3)).trans hx286_3
         replace hx286_4 := (HB.out.cell (World.block_lt_of_cell? w _ hx286_4)).trans hx286_4
         replace hx286_5 := (HB.out.cell (World.block_lt_of_cell? w _ hx286_5)).trans hx286_5
         replace hx286_6 := (HB.out.cell (World.block_lt_of_cell? w _ hx286_6)).trans hx286_6
         replace hx286_7 := (HB.out.cell (World.block_lt_of_cell? w _ hx286_7)).trans hx286_7
         replace hx286_8 := (HB.out.cell (World.block_lt_of_cell? w _ hx286_8)).trans hx286_8
         replace hx286_9 := (HB.out.cell (World.block_lt_of_cell? w _ hx286_9)).trans hx286_9
         replace hx286_10 := (HB.out.cell (World.block_lt_of_cell? w _ hx286_10)).trans hx286_10
         replace hx286_11 := (HB.out.cell (World.block_lt_of_cell? w _ hx286_11)).trans hx286_11
         replace hx286_12 := (HB.out.cell (World.block_lt_of_cell? w _ hx286_12)).trans hx286_12
         replace hx286_13 := (HB.out.cell (World.block_lt_of_cell? w _ hx286_13)).trans hx286_13
         have HR286_13 := Aside0.mk hi286_13
         have HC286_13 := Aside0.mk hl286_13
         clear hi286_13 hl286_13
         replace p286 := eq_true p286
         replace q286 := eq_true q286
         refine start_ (n := 24) (S := fun w' => w'.cell? ⟨gb283, 0, none⟩ = some (.int .i64 ((rd_T35 l1 x5_1).f1.f0)) ∧ w'.cell? ⟨gb283, 1, none⟩ = some (.int .i64 ((rd_T35 l1 x5_1).f1.f1.f0)) ∧ w'.cell? ⟨gb283, 2, none⟩ = some (.int .i64 ((rd_T35 l1 x5_1).f1.f1.f1)) ∧ w'.cell? ⟨gb283, 3, none⟩ = some (.int .i64 ((rd_T35 l1 x5_1).f1.f2.f0)) ∧ w'.cell? ⟨gb283, 4, none⟩ = some (.int .i64 ((rd_T35 l1 x5_1).f1.f2.f1)) ∧ w'.cell? ⟨gb283, 5, none⟩ = some (.int .i64 ((rd_T35 l1 x5_1).f1.f3.f0)) ∧ w'.cell? ⟨gb283, 6, none⟩ = some (.int .i64 ((rd_T35 l1 x5_1).f1.f3.f1)) ∧ w'.cell? ⟨gb283, 7, none⟩ = some (.int .i64 ((rd_T35 l1 x5_1).f1.f3.f2)) ∧ w'.cell? ⟨gb283, 8, none⟩ = some (.int .i64 ((rd_T35 l1 x5_1).f1.f3.f3)) ∧ w'.cell? ⟨gb283, 9, none⟩ = some (.int .i64 ((rd_T35 l1 x5_1).f1.f3.f4)) ∧ w'.cell? ⟨gb283, 10, none⟩ = some (.string ((rd_T35 l1 x5_1).f1.f3.f5)) ∧ w'.cell? ⟨gb283, 11, none⟩ = some (.int .i64 ((rd_T35 l1 x5_1).f1.f4.f0)) ∧ w'.cell? ⟨gb283, 12, none⟩ = some (.slice A282_13 ((rd_T35 l1 x5_1).f1.f4.f1).length c282_13) ∧ w'.cell? ad282 = some (.int .i64 ((rd_T35 l1 0).f0)) ∧ w'.cell? ⟨ad282.block, ad282.off + 1, none⟩ = some (.int .i64 ((rd_T35 l1 0).f1.f0)) ∧ w'.cell? ⟨ad282.block, ad282.off + 2, none⟩ = some (.int .i64 ((rd_T35 l1 0).f1.f1.f0)) ∧ w'.cell? ⟨ad282.block, ad282.off + 3, none⟩ = some (.int .i64 ((rd_T35 l1 0).f1.f1.f1)) ∧ w'.cell? ⟨ad282.block, ad282.off + 4, none⟩ = some (.int .i64 ((rd_T35 l1 0).f1.f2.f0)) ∧ w'.cell? ⟨ad282.block, ad282.off + 5, none⟩ = some (.int .i64 ((rd_T35 l1 0).f1.f2.f1)) ∧ w'.cell? ⟨ad282.block, ad282.off + 6, none⟩ = some (.int .i64 ((rd_T35 l1 0).f1.f3.f0)) ∧ w'.cell? ⟨ad282.block, ad282.off + 7, none⟩ = some (.int .i64 ((rd_T35 l1 0).f1.f3.f1)) ∧ w'.cell? ⟨ad282.block, ad282.off + 8, none⟩ = some (.int .i64 ((rd_T35 l1 0).f1.f3.f2)) ∧ w'.cell? ⟨ad282.block, ad282.off + 9, none⟩ = some (.int .i64 ((rd_T35 l1 0).f1.f3.f3)) ∧ w'.cell? ⟨ad282.block, ad282.off + 10, none⟩ = some (.int .i64 ((rd_T35 l1 0).f1.f3.f4)) ∧ w'.cell? ⟨ad282.block, ad282.off + 11, none⟩ = some (.string ((rd_T35 l1 0).f1.f3.f5)) ∧ w'.cell? ⟨ad282.block, ad282.off + 12, none⟩ = some (.int .i64 ((rd_T35 l1 0).f1.f4.f0)) ∧ w'.cell? ⟨ad282.block, ad282.off + 13, none⟩ = some (.slice A286_13 ((rd_T35 l1 0).f1.f4.f1).length c286_13)) (ds := []) q30_0 (by kernel_rfl) rfl rfl ⟨(blk_cell BK283.out 0).trans rfl, (blk_cell BK283.out 1).trans rfl, (blk_cell BK283.out 2).trans rfl, (blk_cell BK283.out 3).trans rfl, (blk_cell BK283.out 4).trans rfl, (blk_cell BK283.out 5).trans rfl, (blk_cell BK283.out 6).trans rfl, (blk_cell BK283.out 7).trans rfl, (blk_cell BK283.out 8).trans rfl, (blk_cell BK283.out 9).trans rfl, (blk_cell BK283.out 10).trans rfl, (blk_cell BK283.out 11).trans rfl, (blk_cell BK283.out 12).trans rfl, ((HB.out.cell (World.block_lt_of_cell? w _ hw286_0)).trans hw286_0), ((HB.out.cell (World.block_lt_of_cell? w _ hw286_1)).trans hw286_1), ((HB.out.cell (World.block_lt_of_cell? w _ hw286_2)).trans hw286_2), ((HB.out.cell (World.block_lt_of_cell? w _ hw286_3)).trans hw286_3), ((HB.out.cell (World.block_lt_of_cell? w _ hw286_4)).trans hw286_4), ((HB.out.cell (World.block_lt_of_cell? w _ hw286_5)).trans hw286_5), ((HB.out.cell (World.block_lt_of_cell? w _ hw286_6)).trans hw286_6), ((HB.out.cell (World.block_lt_of_cell? w _ hw286_7)).trans hw286_7), ((HB.out.cell (World.block_lt_of_cell? w _ hw286_8)).trans hw286_8), ((HB.out.cell (World.block_lt_of_cell? w _ hw286_9)).trans hw286_9), ((HB.out.cell (World.block_lt_of_cell? w _ hw286_10)).trans hw286_10), ((HB.out.cell (World.block_lt_of_cell? w _ hw286_11)).trans hw286_11), ((HB.out.cell (World.block_lt_of_cell? w _ hw286_12)).trans hw286_12), ((HB.out.cell (World.block_lt_of_cell? w _ hw286_13)).trans hw286_13)⟩ (fun hHeld => ?_); refine with_tabW colloquyref10_first.tab6 colloquyref10_first.bits6 (fun HT_ HW_ => ?_)
         generalize w20.drew = w21 at BK283 HB HR286_13 hx286_0 hx286_1 hx286_10 hx286_11 hx286_12 hx286_13 hx286_2 hx286_3 hx286_4 hx286_5 hx286_6 hx286_7 hx286_8 hx286_9 hHeld ⊢
         refine pure_ (i := 0) (N := some 27) (v := ?_) (a' := ?_) q30_1 rfl rfl (any_of HT_.out (by kernel_rfl)) (fun _ _ _ h => h) (Or.inl ⟨by rfl, ?_⟩) ?_ ?_
         rotate_left
         ·
          intro w'
          go_simp
          with_reducible rfl
         rotate_left
         ·
          simp only [Act.put, List.setIfInBounds_toArray, List.set_cons_zero, List.set_cons_succ, i64_w, i32_w]
          rfl
         refine take_ (i := 1) (N := some 28) (v := ?_) (a' := ?_) q30_2 rfl rfl (take_ofW HT_.out HW_.out (by kernel_rfl)) (fun _ _ _ h => h) (Or.inl ⟨by rfl, ?_⟩) hHeld ?_ ?_
         rotate_left
         ·
          rintro w' ⟨s0, s1, s2, s3, s4, s5, s6, s7, s8, s9, s10, s11, s12, s13, s14, s15, s16, s17, s18, s19, s20, s21, s22, s23, s24, s25, s26⟩
          go_simp
          with_reducible rfl
         rotate_left
         ·
          simp only [Act.put, List.setIfInBounds_toArray, List.set_cons_zero, List.set_cons_succ, i64_w, i32_w]
          rfl
         refine pure_ (i := 2) (N := some 29) (v := ?_) (a' := ?_) q30_3 rfl rfl (any_of HT_.out (by kernel_rfl)) (fun _ _ _ h => h) (Or.inl ⟨by rfl, ?_⟩) ?_ ?_
         rotate_left
         ·
          intro w'
          go_simp
          with_reducible rfl
         rotate_left
         ·
          simp only [Act.put, List.setIfInBounds_toArray, List.set_cons_zero, List.set_cons_succ, i64_w, i32_w]
          rfl
         refine pure_ (i := 3) (N := some 30) (v := ?_) (a' := ?_) q30_4 rfl rfl (any_of HT_.out (by kernel_rfl)) (fun _ _ _ h => h) (Or.inl ⟨by rfl, ?_⟩) ?_ ?_
         rotate_left
         ·
          intro w'
          go_simp
          with_reducible rfl
         rotate_left
         ·
          simp only [Act.put, List.setIfInBounds_toArray, List.set_cons_zero, List.set_cons_succ, i64_w, i32_w]
          rfl
         refine pure_ (i := 4) (N := some 31) (v := ?_) (a' := ?_) q30_5 rfl rfl (any_of HT_.out (by kernel_rfl)) (fun _ _ _ h => h) (Or.inl ⟨by rfl, ?_⟩) ?_ ?_
         rotate_left
         ·
          intro w'
          go_simp
          with_reducible rfl
         rotate_left
         ·
          simp only [Act.put, List.setIfInBounds_toArray, List.set_cons_zero, List.set_cons_succ, i64_w, i32_w]
          rfl
         refine pure_ (i := 6) (N := some 33) (v := ?_) (a' := ?_) q30_6 rfl rfl (any_of HT_.out (by kernel_rfl)) (fun _ _ _ h => h) (Or.inl ⟨by rfl, ?_⟩) ?_ ?_
         rotate_left
         ·
          intro w'
          go_simp
          with_reducible rfl
         rotate_left
         ·
          simp only [Act.put, List.setIfInBounds_toArray, List.set_cons_zero, List.set_cons_succ, i64_w, i32_w]
          rfl
         refine pure_ (i := 7) (N := some 34) (v := ?_) (a' := ?_) q30_8 rfl rfl (any_of HT_.out (by kernel_rfl)) (fun _ _ _ h => h) (Or.inl ⟨by rfl, ?_⟩) ?_ ?_
         rotate_left
         ·
          intro w'
          go_simp
          with_reducible rfl
         rotate_left
         ·
          simp only [Act.put, List.setIfInBounds_toArray, List.set_cons_zero, List.set_cons_succ, i64_w, i32_w]
          rfl
         refine take_ (i := 5) (N := some 32) (v := ?_) (a' := ?_) q30_10 rfl rfl (take_ofW HT_.out HW_.out (by kernel_rfl)) (fun _ _ _ h => h) (Or.inl ⟨by rfl, ?_⟩) hHeld ?_ ?_
         rotate_left
         ·
          rintro w' ⟨s0, s1, s2, s3, s4, s5, s6, s7, s8, s9, s10, s11, s12, s13, s14, s15, s16, s17, s18, s19, s20, s21, s22, s23, s24, s25, s26⟩
          go_simp
          with_reducible rfl
         rotate_left
         ·
          simp only [Act.put, List.setIfInBounds_toArray, List.set_cons_zero, List.set_cons_succ, i64_w, i32_w]
          rfl
         refine pure_ (i := 8) (N := some 35) (v := ?_) (a' := ?_) q30_11 rfl rfl (any_of HT_.out (by kernel_rfl)) (fun _ _ _ h => h) (Or.inl ⟨by rfl, ?_⟩) ?_ ?_
         rotate_left
         ·
          intro w'
          go_simp
          with_reducible rfl
         rotate_left
         ·
          simp only [Act.put, List.setIfInBounds_toArray, List.set_cons_zero, List.set_cons_succ, i64_w, i32_w]
          rfl
         refine pure_ (i := 9) (N := some 36) (v := ?_) (a' := ?_) q30_12 rfl rfl (any_of HT_.out (by kernel_rfl)) (fun _ _ _ h => h) (Or.inl ⟨by rfl, ?_⟩) ?_ ?_
         rotate_left
         ·
          intro w'
          go_simp
          with_reducible rfl
         rotate_left
         ·
          simp only [Act.put, List.setIfInBounds_toArray, List.set_cons_zero, List.set_cons_succ, i64_w, i32_w]
          rfl
         refine pure_ (i := 10) (N := some 37) (v := ?_) (a' := ?_) q30_13 rfl rfl (any_of HT_.out (by kernel_rfl)) (fun _ _ _ h => h) (Or.inl ⟨by rfl, ?_⟩) ?_ ?_
         rotate_left
         ·
          intro w'
          go_simp
          with_reducible rfl
         rotate_left
         ·
          simp only [Act.put, List.setIfInBounds_toArray, List.set_cons_zero, List.set_cons_succ, i64_w, i32_w]
          rfl
         refine pure_ (i := 11) (N := some 38) (v := ?_) (a' := ?_) q30_14 rfl rfl (any_of HT_.out (by kernel_rfl)) (fun _ _ _ h => h) (Or.inl ⟨by rfl, ?_⟩) ?_ ?_
         rotate_left
         ·
          intro w'
          go_simp
          with_reducible rfl
         rotate_left
         ·
          simp only [Act.put, List.setIfInBounds_toArray, List.set_cons_zero, List.set_cons_succ, i64_w, i32_w]
          rfl
         refine pure_ (i := 13) (N := some 40) (v := ?_) (a' := ?_) q30_15 rfl rfl (any_of HT_.out (by kernel_rfl)) (fun _ _ _ h => h) (Or.inl ⟨by rfl, ?_⟩) ?_ ?_
         rotate_left
         ·
          intro w'
          go_simp
          with_reducible rfl
         rotate_left
         ·
          simp only [Act.put, List.setIfInBounds_toArray, List.set_cons_zero, List.set_cons_succ, i64_w, i32_w]
          rfl
         refine pure_ (i := 14) (N := some 41) (v := ?_) (a' := ?_) q30_17 rfl rfl (any_of HT_.out (by kernel_rfl)) (fun _ _ _ h => h) (Or.inl ⟨by rfl, ?_⟩) ?_ ?_
         rotate_left
         ·
          intro w'
          go_simp
          with_reducible rfl
         rotate_left
         ·
          simp only [Act.put, List.setIfInBounds_toArray, List.set_cons_zero, List.set_cons_succ, i64_w, i32_w]
          rfl
         refine pure_ (i := 15) (N := some 42) (v := ?_) (a' := ?_) q30_19 rfl rfl (any_of HT_.out (by kernel_rfl)) (fun _ _ _ h => h) (Or.inl ⟨by rfl, ?_⟩) ?_ ?_
         rotate_left
         ·
          intro w'
          go_simp
          with_reducible rfl
         rotate_left
         ·
          simp only [Act.put, List.setIfInBounds_toArray, List.set_cons_zero, List.set_cons_succ, i64_w, i32_w]
          rfl
         refine pure_ (i := 16) (N := some 43) (v := ?_) (a' := ?_) q30_21 rfl rfl (any_of HT_.out (by kernel_rfl)) (fun _ _ _ h => h) (Or.inl ⟨by rfl, ?_⟩) ?_ ?_
         rotate_left
         ·
          intro w'
          go_simp
          with_reducible rfl
         rotate_left
         ·
          simp only [Act.put, List.setIfInBounds_toArray, List.set_cons_zero, List.set_cons_succ, i64_w, i32_w]
          rfl
         refine take_ (i := 12) (N := some 39) (v := ?_) (a' := ?_) q30_23 rfl rfl (take_ofW HT_.out HW_.out (by kernel_rfl)) (fun _ _ _ h => h) (Or.inl ⟨by rfl, ?_⟩) hHeld ?_ ?_
         rotate_left
         ·
          rintro w' ⟨s0, s1, s2, s3, s4, s5, s6, s7, s8, s9, s10, s11, s12, s13, s14, s15, s16, s17, s18, s19, s20, s21, s22, s23, s24, s25, s26⟩
          go_simp
          with_reducible rfl
         rotate_left
         ·
          simp only [Act.put, List.setIfInBounds_toArray, List.set_cons_zero, List.set_cons_succ, i64_w, i32_w]
          rfl
         refine take_ (i := 17) (N := some 44) (v := ?_) (a' := ?_) q30_24 rfl rfl (take_ofW HT_.out HW_.out (by kernel_rfl)) (fun _ _ _ h => h) (Or.inl ⟨by rfl, ?_⟩) hHeld ?_ ?_
         rotate_left
         ·
          rintro w' ⟨s0, s1, s2, s3, s4, s5, s6, s7, s8, s9, s10, s11, s12, s13, s14, s15, s16, s17, s18, s19, s20, s21, s22, s23, s24, s25, s26⟩
          go_simp
          with_reducible rfl
         rotate_left
         ·
          simp only [Act.put, List.setIfInBounds_toArray, List.set_cons_zero, List.set_cons_succ, i64_w, i32_w]
          rfl
         refine pure_ (i := 18) (N := some 45) (v := ?_) (a' := ?_) q30_25 rfl rfl (any_of HT_.out (by kernel_rfl)) (fun _ _ _ h => h) (Or.inl ⟨by rfl, ?_⟩) ?_ ?_
         rotate_left
         ·
          intro w'
          go_simp
          with_reducible rfl
         rotate_left
         ·
          simp only [Act.put, List.setIfInBounds_toArray, List.set_cons_zero, List.set_cons_succ, i64_w, i32_w]
          rfl
         refine pure_ (i := 19) (N := some 46) (v := ?_) (a' := ?_) q30_26 rfl rfl (any_of HT_.out (by kernel_rfl)) (fun _ _ _ h => h) (Or.inl ⟨by rfl, ?_⟩) ?_ ?_
         rotate_left
         ·
          intro w'
          go_simp
          with_reducible rfl
         rotate_left
         ·
          simp only [Act.put, List.setIfInBounds_toArray, List.set_cons_zero, List.set_cons_succ, i64_w, i32_w]
          rfl
         refine pure_ (i := 20) (N := some 47) (v := ?_) (a' := ?_) q30_27 rfl rfl (any_of HT_.out (by kernel_rfl)) (fun _ _ _ h => h) (Or.inl ⟨by rfl, ?_⟩) ?_ ?_
         rotate_left
         ·
          intro w'
          go_simp
          with_reducible rfl
         rotate_left
         ·
          simp only [Act.put, List.setIfInBounds_toArray, List.set_cons_zero, List.set_cons_succ, i64_w, i32_w]
          rfl
         refine pure_ (i := 21) (N := some 48) (v := undef) (a' := ?_) q30_28 rfl rfl (any_of HT_.out (by kernel_rfl)) (fun _ _ _ h => h) (Or.inr ⟨by rfl, rfl⟩) ?_ ?_
         rotate_left
         ·
          simp only [Act.put, List.setIfInBounds_toArray, List.set_cons_zero, List.set_cons_succ, i64_w, i32_w]
          rfl
         refine pure_ (i := 22) (N := some 49) (v := undef) (a' := ?_) q30_29 rfl rfl (any_of HT_.out (by kernel_rfl)) (fun _ _ _ h => h) (Or.inr ⟨by rfl, rfl⟩) ?_ ?_
         rotate_left
         ·
          simp only [Act.put, List.setIfInBounds_toArray, List.set_cons_zero, List.set_cons_succ, i64_w, i32_w]
          rfl
         refine pure_ (i := 23) (N := some 50) (v := ?_) (a' := ?_) q30_30 rfl rfl (any_of HT_.out (by kernel_rfl)) (fun _ _ _ h => h) (Or.inl ⟨by rfl, ?_⟩) ?_ ?_
         rotate_left
         ·
          intro w'
          go_simp
          with_reducible rfl
         rotate_left
         ·
          simp only [Act.put, List.setIfInBounds_toArray, List.set_cons_zero, List.set_cons_succ, i64_w, i32_w]
          rfl
         refine done_ (done_of HT_.out (by kernel_rfl)) ?_
         try go_wp2
         go_ret
         exact ⟨by first | rfl | (simp [errW_none, errW_some] <;> rfl) | (simp [*, errW_none, errW_some] <;> rfl), gw_ HB⟩
        ·
         rw [if_neg c15] at H
         have c15b0 : (!(((rd_T35 l1 x5_1).f1.f3.f0) == ((rd_T35 l1 0).f1.f3.f0)) || (!(((rd_T35 l1 x5_1).f1.f3.f1) == ((rd_T35 l1 0).f1.f3.f1)) || (!(((rd_T35 l1 x5_1).f1.f3.f2) == ((rd_T35 l1 0).f1.f3.f2)) || (!(((rd_T35 l1 x5_1).f1.f3.f3) == ((rd_T35 l1 0).f1.f3.f3)) || (!(((rd_T35 l1 x5_1).f1.f3.f4) == ((rd_T35 l1 0).f1.f3.f4)) || (!((((rd_T35 l1 x5_1).f1.f3.f5).toList) == (((rd_T35 l1 0).f1.f3.f5).toList)))))))) = false := by simpa using c15
         clear c15
         by_cases c22 : t285 = true
         ·
          subst c22
          have H1 : (colloquyref10_first.l0 k1 a0 l1 (wrap64 (x5_1 + 1))) = some r := by rw [if_pos rfl] at H; exact H
          clear H
          have H := H1
          clear H1
          have H' := Aside0.mk H
          clear H
          have p282 : 0 ≤ (x5_1 : Int) := of_decide_eq_true (by first | (with_reducible assumption) | assumption)
          have q282 : x5_1 < (l1.length : Int) := of_decide_eq_true (by first | (with_reducible assumption) | assumption)
          obtain ⟨ad282, A282_13, c282_13, e282, hx282_0, hx282_1, hx282_2, hx282_3, hx282_4, hx282_5, hx282_6, hx282_7, hx282_8, hx282_9, hx282_10, hx282_11, hx282_12, hx282_13, hl282_13, hi282_13⟩ := at_T35 HR1.out x5_1 p282 q282
          cases e282
          replace hx282_0 := (HB.out.cell (World.block_lt_of_cell? w _ hx282_0)).trans hx282_0
          replace hx282_1 := (HB.out.cell (World.block_lt_of_cell? w _ hx282_1)).trans hx282_1
          replace hx282_2 := (HB.out.cell (World.block_lt_of_cell? w _ hx282_2)).trans hx282_2
          replace hx282_3 := (HB.out.cell (World.block_lt_of_cell? w _ hx282_3)).trans hx282_3
          replace hx282_4 := (HB.out.cell (World.block_lt_of_cell? w _ hx282_4)).trans hx282_4
          replace hx282_5 := (HB.out.cell (World.block_lt_of_cell? w _ hx282_5)).trans hx282_5
          replace hx282_6 := (HB.out.cell (World.block_lt_of_cell? w _ hx282_6)).trans hx282_6
          replace hx282_7 := (HB.out.cell (World.block_lt_of_cell? w _ hx282_7)).trans hx282_7
          replace hx282_8 := (HB.out.cell (World.block_lt_of_cell? w _ hx282_8)).trans hx282_8
          replace hx282_9 := (HB.out.cell (World.block_lt_of_cell? w _ hx282_9)).trans hx282_9
          replace hx282_10 := (HB.out.cell (World.block_lt_of_cell? w _ hx282_10)).trans hx282_10
          replace hx282_11 := (HB.out.cell (World.block_lt_of_cell? w _ hx282_11)).trans hx282_11
          replace hx282_12 := (HB.out.cell (World.block_lt_of_cell? w _ hx282_12)).trans hx282_12
          replace hx282_13 := (HB.out.cell (World.block_lt_of_cell? w _ hx282_13)).trans hx282_13
          have HR282_13 := Aside0.mk hi282_13
          have HC282_13 := Aside0.mk hl282_13
          clear hi282_13 hl282_13
          replace p282 := eq_true p282
          replace q282 := eq_true q282
          try go_wp2_with (first | ((with_reducible refine gate_dst (N := 6) rfl ?_); refine box_event ?hg (N := 6) ?hd (cs := #[.int .i64 0, .int .i64 0, .int .i64 0, .int .i64 0, .int .i64 0, .int .i64 0, .int .i64 0, .int .i64 0, .int .i64 0, .int .i64 0, .string (⟨#[]⟩ : ByteArray), .int .i64 0, .slice none 0 0]) (t := 33) ?hr ?_; (case hd => rfl); (case hg => rfl); (case hr => first | (go_simp; done) | (go_simp; rfl)); intro gb283 hg w23 hbox hb; have s_ := step_size_ (gw_ HB) hb hg; have n0_ := Aside0.mk s_.1; have n1_ := Aside0.mk (hbox); have n2_ := Aside0.mk s_.2; clear s_; have n3_ := n2_; clear HB; have HB := n0_; have BK283 := n1_; have GW283 := n2_; have GE283 := n3_; clear n0_ n1_ n2_ n3_; clear hb hbox hg; obtain ⟨hcz24_0, hcz24_1, hcz24_2, hcz24_3, hcz24_4, hcz24_5, hcz24_6, hcz24_7, hcz24_8, hcz24_9, hcz24_10, hcz24_11, hcz24_12⟩ := blk_cells13 BK283.out; have hfz24_0 := blk_frozen BK283.out 0; have hfz24_1 := blk_frozen BK283.out 1; have hfz24_2 := blk_frozen BK283.out 2; have hfz24_3 := blk_frozen BK283.out 3; have hfz24_4 := blk_frozen BK283.out 4; have hfz24_5 := blk_frozen BK283.out 5; have hfz24_6 := blk_frozen BK283.out 6; have hfz24_7 := blk_frozen BK283.out 7; have hfz24_8 := blk_frozen BK283.out 8; have hfz24_9 := blk_frozen BK283.out 9; have hfz24_10 := blk_frozen BK283.out 10; have hfz24_11 := blk_frozen BK283.out 11; have hfz24_12 := blk_frozen BK283.out 12))
          have n0_ : Aside0 ((((((((((((((w23.setCell ⟨gb283, 0, none⟩ (.int .i64 ((rd_T35 l1 x5_1).f1.f0))).setCell ⟨gb283, 1, none⟩ (.int .i64 ((rd_T35 l1 x5_1).f1.f1.f0))).setCell ⟨gb283, 2, none⟩ (.int .i64 ((rd_T35 l1 x5_1).f1.f1.f1))).setCell ⟨gb283, 3, none⟩ (.int .i64 ((rd_T35 l1 x5_1).f1.f2.f0))).setCell ⟨gb283, 4, none⟩ (.int .i64 ((rd_T35 l1 x5_1).f1.f2.f1))).setCell ⟨gb283, 5, none⟩ (.int .i64 ((rd_T35 l1 x5_1).f1.f3.f0))).setCell ⟨gb283, 6, none⟩ (.int .i64 ((rd_T35 l1 x5_1).f1.f3.f1))).setCell ⟨gb283, 7, none⟩ (.int .i64 ((rd_T35 l1 x5_1).f1.f3.f2))).setCell ⟨gb283, 8, none⟩ (.int .i64 ((rd_T35 l1 x5_1).f1.f3.f3))).setCell ⟨gb283, 9, none⟩ (.int .i64 ((rd_T35 l1 x5_1).f1.f3.f4))).setCell ⟨gb283, 10, none⟩ (.string ((rd_T35 l1 x5_1).f1.f3.f5))).setCell ⟨gb283, 11, none⟩ (.int .i64 ((rd_T35 l1 x5_1).f1.f4.f0))).setCell ⟨gb283, 12, none⟩ (.slice A282_13 ((rd_T35 l1 x5_1).f1.f4.f1).length c282_13)).heap[gb283]? = some (.cells #[.int .i64 ((rd_T35 l1 x5_1).f1.f0), .int .i64 ((rd_T35 l1 x5_1).f1.f1.f0), .int .i64 ((rd_T35 l1 x5_1).f1.f1.f1), .int .i64 ((rd_T35 l1 x5_1).f1.f2.f0), .int .i64 ((rd_T35 l1 x5_1).f1.f2.f1), .int .i64 ((rd_T35 l1 x5_1).f1.f3.f0), .int .i64 ((rd_T35 l1 x5_1).f1.f3.f1), .int .i64 ((rd_T35 l1 x5_1).f1.f3.f2), .int .i64 ((rd_T35 l1 x5_1).f1.f3.f3), .int .i64 ((rd_T35 l1 x5_1).f1.f3.f4), .string ((rd_T35 l1 x5_1).f1.f3.f5), .int .i64 ((rd_T35 l1 x5_1).f1.f4.f0), .slice A282_13 ((rd_T35 l1 x5_1).f1.f4.f1).length c282_13] 33 (0, 0))) := ⟨by (with_reducible repeat (first | refine blk_drewN ?_ _ | refine blk_drew ?_ | refine blk_alloc ?_ _)); refine blk_put13 (cs := #[.int .i64 0, .int .i64 0, .int .i64 0, .int .i64 0, .int .i64 0, .int .i64 0, .int .i64 0, .int .i64 0, .int .i64 0, .int .i64 0, .string (⟨#[]⟩ : ByteArray), .int .i64 0, .slice none 0 0]) ?_ rfl; (with_reducible repeat (first | refine blk_drewN ?_ _ | refine blk_drew ?_ | refine blk_alloc ?_ _)); exact BK283.out⟩
          have n1_ : Aside0 (Below w.heap.size w (((((((((((((w23.setCell ⟨gb283, 0, none⟩ (.int .i64 ((rd_T35 l1 x5_1).f1.f0))).setCell ⟨gb283, 1, none⟩ (.int .i64 ((rd_T35 l1 x5_1).f1.f1.f0))).setCell ⟨gb283, 2, none⟩ (.int .i64 ((rd_T35 l1 x5_1).f1.f1.f1))).setCell ⟨gb283, 3, none⟩ (.int .i64 ((rd_T35 l1 x5_1).f1.f2.f0))).setCell ⟨gb283, 4, none⟩ (.int .i64 ((rd_T35 l1 x5_1).f1.f2.f1))).setCell ⟨gb283, 5, none⟩ (.int .i64 ((rd_T35 l1 x5_1).f1.f3.f0))).setCell ⟨gb283, 6, none⟩ (.int .i64 ((rd_T35 l1 x5_1).f1.f3.f1))).setCell ⟨gb283, 7, none⟩ (.int .i64 ((rd_T35 l1 x5_1).f1.f3.f2))).setCell ⟨gb283, 8, none⟩ (.int .i64 ((rd_T35 l1 x5_1).f1.f3.f3))).setCell ⟨gb283, 9, none⟩ (.int .i64 ((rd_T35 l1 x5_1).f1.f3.f4))).setCell ⟨gb283, 10, none⟩ (.string ((rd_T35 l1 x5_1).f1.f3.f5))).setCell ⟨gb283, 11, none⟩ (.int .i64 ((rd_T35 l1 x5_1).f1.f4.f0))).setCell ⟨gb283, 12, none⟩ (.slice A282_13 ((rd_T35 l1 x5_1).f1.f4.f1).length c282_13))) := ⟨gw_ HB⟩
          (try clear BK283)
          (try clear HB)
          generalize (((((((((((((w23.setCell ⟨gb283, 0, none⟩ (.int .i64 ((rd_T35 l1 x5_1).f1.f0))).setCell ⟨gb283, 1, none⟩ (.int .i64 ((rd_T35 l1 x5_1).f1.f1.f0))).setCell ⟨gb283, 2, none⟩ (.int .i64 ((rd_T35 l1 x5_1).f1.f1.f1))).setCell ⟨gb283, 3, none⟩ (.int .i64 ((rd_T35 l1 x5_1).f1.f2.f0))).setCell ⟨gb283, 4, none⟩ (.int .i64 ((rd_T35 l1 x5_1).f1.f2.f1))).setCell ⟨gb283, 5, none⟩ (.int .i64 ((rd_T35 l1 x5_1).f1.f3.f0))).setCell ⟨gb283, 6, none⟩ (.int .i64 ((rd_T35 l1 x5_1).f1.f3.f1))).setCell ⟨gb283, 7, none⟩ (.int .i64 ((rd_T35 l1 x5_1).f1.f3.f2))).setCell ⟨gb283, 8, none⟩ (.int .i64 ((rd_T35 l1 x5_1).f1.f3.f3))).setCell ⟨gb283, 9, none⟩ (.int .i64 ((rd_T35 l1 x5_1).f1.f3.f4))).setCell ⟨gb283, 10, none⟩ (.string ((rd_T35 l1 x5_1).f1.f3.f5))).setCell ⟨gb283, 11, none⟩ (.int .i64 ((rd_T35 l1 x5_1).f1.f4.f0))).setCell ⟨gb283, 12, none⟩ (.slice A282_13 ((rd_T35 l1 x5_1).f1.f4.f1).length c282_13)) = w25 at n0_ n1_ ⊢
          have BK283 := n0_
          have HB := n1_
          clear n0_ n1_
          have n0_ := Aside0.mk (blk_drew BK283.out)
          have n1_ := Aside0.mk (below_drew1 HB.out)
          clear BK283
          clear HB
          have BK283 := n0_
          have HB := n1_
          clear n0_ n1_
          have p284 : 0 ≤ (0 : Int) := (by omega)
          have q284 : 0 < (l1.length : Int) := of_decide_eq_true (by first | (with_reducible assumption) | assumption)
          obtain ⟨ad284, A284_13, c284_13, e284, hx284_0, hx284_1, hx284_2, hx284_3, hx284_4, hx284_5, hx284_6, hx284_7, hx284_8, hx284_9, hx284_10, hx284_11, hx284_12, hx284_13, hl284_13, hi284_13⟩ := at_T35 HR1.out 0 p284 q284
          have hw284_13 := hx284_13
          (try rw [show ((0 : Int)).toNat = 0 from rfl] at hw284_13)
          (try rw [show 0 * 14 = 0 from rfl] at hw284_13)
          (try rw [Addr.add_zero'] at hw284_13)
          have hw284_12 := hx284_12
          (try rw [show ((0 : Int)).toNat = 0 from rfl] at hw284_12)
          (try rw [show 0 * 14 = 0 from rfl] at hw284_12)
          (try rw [Addr.add_zero'] at hw284_12)
          have hw284_11 := hx284_11
          (try rw [show ((0 : Int)).toNat = 0 from rfl] at hw284_11)
          (try rw [show 0 * 14 = 0 from rfl] at hw284_11)
          (try rw [Addr.add_zero'] at hw284_11)
          have hw284_10 := hx284_10
          (try rw [show ((0 : Int)).toNat = 0 from rfl] at hw284_10)
          (try rw [show 0 * 14 = 0 from rfl] at hw284_10)
          (try rw [Addr.add_zero'] at hw284_10)
          have hw284_9 := hx284_9
          (try rw [show ((0 : Int)).toNat = 0 from rfl] at hw284_9)
          (try rw [show 0 * 14 = 0 from rfl] at hw284_9)
          (try rw [Addr.add_zero'] at hw284_9)
          have hw284_8 := hx284_8
          (try rw [show ((0 : Int)).toNat = 0 from rfl] at hw284_8)
          (try rw [show 0 * 14 = 0 from rfl] at hw284_8)
          (try rw [Addr.add_zero'] at hw284_8)
          have hw284_7 := hx284_7
          (try rw [show ((0 : Int)).toNat = 0 from rfl] at hw284_7)
          (try rw [show 0 * 14 = 0 from rfl] at hw284_7)
          (try rw [Addr.add_zero'] at hw284_7)
          have hw284_6 := hx284_6
          (try rw [show ((0 : Int)).toNat = 0 from rfl] at hw284_6)
          (try rw [show 0 * 14 = 0 from rfl] at hw284_6)
          (try rw [Addr.add_zero'] at hw284_6)
          have hw284_5 := hx284_5
          (try rw [show ((0 : Int)).toNat = 0 from rfl] at hw284_5)
          (try rw [show 0 * 14 = 0 from rfl] at hw284_5)
          (try rw [Addr.add_zero'] at hw284_5)
          have hw284_4 := hx284_4
          (try rw [show ((0 : Int)).toNat = 0 from rfl] at hw284_4)
          (try rw [show 0 * 14 = 0 from rfl] at hw284_4)
          (try rw [Addr.add_zero'] at hw284_4)
          have hw284_3 := hx284_3
          (try rw [show ((0 : Int)).toNat = 0 from rfl] at hw284_3)
          (try rw [show 0 * 14 = 0 from rfl] at hw284_3)
          (try rw [Addr.add_zero'] at hw284_3)
          have hw284_2 := hx284_2
          (try rw [show ((0 : Int)).toNat = 0 from rfl] at hw284_2)
          (try rw [show 0 * 14 = 0 from rfl] at hw284_2)
          (try rw [Addr.add_zero'] at hw284_2)
          have hw284_1 := hx284_1
          (try rw [show ((0 : Int)).toNat = 0 from rfl] at hw284_1)
          (try rw [show 0 * 14 = 0 from rfl] at hw284_1)
          (try rw [Addr.add_zero'] at hw284_1)
          have hw284_0 := hx284_0
          (try rw [show ((0 : Int)).toNat = 0 from rfl] at hw284_0)
          (try rw [show 0 * 14 = 0 from rfl] at hw284_0)
          (try rw [Addr.add_zero'] at hw284_0)
          obtain rfl : ad282 = ad284 := (by injection e284)
          have qi284 : (0 < l1.length) = True := eq_true (by omega)
          (try rw [show ((0 : Int)).toNat = 0 from rfl] at hx284_0)
          (try rw [show 0 * 14 = 0 from rfl] at hx284_0)
          (try rw [Addr.add_zero'] at hx284_0)
          (try rw [show ((0 : Int)).toNat = 0 from rfl] at hx284_1)
          (try rw [show 0 * 14 = 0 from rfl] at hx284_1)
          (try rw [Addr.add_zero'] at hx284_1)
          (try rw [show ((0 : Int)).toNat = 0 from rfl] at hx284_2)
          (try rw [show 0 * 14 = 0 from rfl] at hx284_2)
          (try rw [Addr.add_zero'] at hx284_2)
          (try rw [show ((0 : Int)).toNat = 0 from rfl] at hx284_3)
          (try rw [show 0 * 14 = 0 from rfl] at hx284_3)
          (try rw [Addr.add_zero'] at hx284_3)
          (try rw [show ((0 : Int)).toNat = 0 from rfl] at hx284_4)
          (try rw [show 0 * 14 = 0 from rfl] at hx284_4)
          (try rw [Addr.add_zero'] at hx284_4)
          (try rw [show ((0 : Int)).toNat = 0 from rfl] at hx284_5)
          (try rw [show 0 * 14 = 0 from rfl] at hx284_5)
          (try rw [Addr.add_zero'] at hx284_5)
          (try rw [show ((0 : Int)).toNat = 0 from rfl] at hx284_6)
          (try rw [show 0 * 14 = 0 from rfl] at hx284_6)
          (try rw [Addr.add_zero'] at hx284_6)
          (try rw [show ((0 : Int)).toNat = 0 from rfl] at hx284_7)
          (try rw [show 0 * 14 = 0 from rfl] at hx284_7)
          (try rw [Addr.add_zero'] at hx284_7)
          (try rw [show ((0 : Int)).toNat = 0 from rfl] at hx284_8)
          (try rw [show 0 * 14 = 0 from rfl] at hx284_8)
          (try rw [Addr.add_zero'] at hx284_8)
          (try rw [show ((0 : Int)).toNat = 0 from rfl] at hx284_9)
          (try rw [show 0 * 14 = 0 from rfl] at hx284_9)
          (try rw [Addr.add_zero'] at hx284_9)
          (try rw [show ((0 : Int)).toNat = 0 from rfl] at hx284_10)
          (try rw [show 0 * 14 = 0 from rfl] at hx284_10)
          (try rw [Addr.add_zero'] at hx284_10)
          (try rw [show ((0 : Int)).toNat = 0 from rfl] at hx284_11)
          (try rw [show 0 * 14 = 0 from rfl] at hx284_11)
          (try rw [Addr.add_zero'] at hx284_11)
          (try rw [show ((0 : Int)).toNat = 0 from rfl] at hx284_12)
          (try rw [show 0 * 14 = 0 from rfl] at hx284_12)
          (try rw [Addr.add_zero'] at hx284_12)
          (try rw [show ((0 : Int)).toNat = 0 from rfl] at hx284_13)
          (try rw [show 0 * 14 = 0 from rfl] at hx284_13)
          (try rw [Addr.add_zero'] at hx284_13)
          replace hx284_0 := (HB.out.cell (World.block_lt_of_cell? w _ hx284_0)).trans hx284_0
          replace hx284_1 := (HB.out.cell (World.block_lt_of_cell? w _ hx284_1)).trans hx284_1
          replace hx284_2 := (HB.out.cell (World.block_lt_of_cell? w _ hx284_2)).trans hx284_2
          replace hx284_3 := (HB.out.cell (World.block_lt_of_cell? w _ hx284_3)).trans hx284_3
          replace hx284_4 := (HB.out.cell (World.block_lt_of_cell? w _ hx284_4)).trans hx284_4
          replace hx284_5 := (HB.out.cell (World.block_lt_of_cell? w _ hx284_5)).trans hx284_5
          replace hx284_6 := (HB.out.cell (World.block_lt_of_cell? w _ hx284_6)).trans hx284_6
          replace hx284_7 := (HB.out.cell (World.block_lt_of_cell? w _ hx284_7)).trans hx284_7
          replace hx284_8 := (HB.out.cell (World.block_lt_of_cell? w _ hx284_8)).trans hx284_8
          replace hx284_9 := (HB.out.cell (World.block_lt_of_cell? w _ hx284_9)).trans hx284_9
          replace hx284_10 := (HB.out.cell (World.block_lt_of_cell? w _ hx284_10)).trans hx284_10
          replace hx284_11 := (HB.out.cell (World.block_lt_of_cell? w _ hx284_11)).trans hx284_11
          replace hx284_12 := (HB.out.cell (World.block_lt_of_cell? w _ hx284_12)).trans hx284_12
          replace hx284_13 := (HB.out.cell (World.block_lt_of_cell? w _ hx284_13)).trans hx284_13
          have HR284_13 := Aside0.mk hi284_13
          have HC284_13 := Aside0.mk hl284_13
          clear hi284_13 hl284_13
          replace p284 := eq_true p284
          replace q284 := eq_true q284
          refine start_ (n := 9) (S := fun w' => w'.cell? ⟨gb283, 0, none⟩ = some (.int .i64 ((rd_T35 l1 x5_1).f1.f0)) ∧ w'.cell? ⟨gb283, 1, none⟩ = some (.int .i64 ((rd_T35 l1 x5_1).f1.f1.f0)) ∧ w'.cell? ⟨gb283, 2, none⟩ = some (.int .i64 ((rd_T35 l1 x5_1).f1.f1.f1)) ∧ w'.cell? ⟨gb283, 3, none⟩ = some (.int .i64 ((rd_T35 l1 x5_1).f1.f2.f0)) ∧ w'.cell? ⟨gb283, 4, none⟩ = some (.int .i64 ((rd_T35 l1 x5_1).f1.f2.f1)) ∧ w'.cell? ⟨gb283, 5, none⟩ = some (.int .i64 ((rd_T35 l1 x5_1).f1.f3.f0)) ∧ w'.cell? ⟨gb283, 6, none⟩ = some (.int .i64 ((rd_T35 l1 x5_1).f1.f3.f1)) ∧ w'.cell? ⟨gb283, 7, none⟩ = some (.int .i64 ((rd_T35 l1 x5_1).f1.f3.f2)) ∧ w'.cell? ⟨gb283, 8, none⟩ = some (.int .i64 ((rd_T35 l1 x5_1).f1.f3.f3)) ∧ w'.cell? ⟨gb283, 9, none⟩ = some (.int .i64 ((rd_T35 l1 x5_1).f1.f3.f4)) ∧ w'.cell? ⟨gb283, 10, none⟩ = some (.string ((rd_T35 l1 x5_1).f1.f3.f5)) ∧ w'.cell? ⟨gb283, 11, none⟩ = some (.int .i64 ((rd_T35 l1 x5_1).f1.f4.f0)) ∧ w'.cell? ⟨gb283, 12, none⟩ = some (.slice A282_13 ((rd_T35 l1 x5_1).f1.f4.f1).length c282_13) ∧ w'.cell? ad282 = some (.int .i64 ((rd_T35 l1 0).f0)) ∧ w'.cell? ⟨ad282.block, ad282.off + 1, none⟩ = some (.int .i64 ((rd_T35 l1 0).f1.f0)) ∧ w'.cell? ⟨ad282.block, ad282.off + 2, none⟩ = some (.int .i64 ((rd_T35 l1 0).f1.f1.f0)) ∧ w'.cell? ⟨ad282.block, ad282.off + 3, none⟩ = some (.int .i64 ((rd_T35 l1 0).f1.f1.f1)) ∧ w'.cell? ⟨ad282.block, ad282.off + 4, none⟩ = some (.int .i64 ((rd_T35 l1 0).f1.f2.f0)) ∧ w'.cell? ⟨ad282.block, ad282.off + 5, none⟩ = some (.int .i64 ((rd_T35 l1 0).f1.f2.f1)) ∧ w'.cell? ⟨ad282.block, ad282.off + 6, none⟩ = some (.int .i64 ((rd_T35 l1 0).f1.f3.f0)) ∧ w'.cell? ⟨ad282.block, ad282.off + 7, none⟩ = some (.int .i64 ((rd_T35 l1 0).f1.f3.f1)) ∧ w'.cell? ⟨ad282.block, ad282.off + 8, none⟩ = some (.int .i64 ((rd_T35 l1 0).f1.f3.f2)) ∧ w'.cell? ⟨ad282.block, ad282.off + 9, none⟩ = some (.int .i64 ((rd_T35 l1 0).f1.f3.f3)) ∧ w'.cell? ⟨ad282.block, ad282.off + 10, none⟩ = some (.int .i64 ((rd_T35 l1 0).f1.f3.f4)) ∧ w'.cell? ⟨ad282.block, ad282.off + 11, none⟩ = some (.string ((rd_T35 l1 0).f1.f3.f5)) ∧ w'.cell? ⟨ad282.block, ad282.off + 12, none⟩ = some (.int .i64 ((rd_T35 l1 0).f1.f4.f0)) ∧ w'.cell? ⟨ad282.block, ad282.off + 13, none⟩ = some (.slice A284_13 ((rd_T35 l1 0).f1.f4.f1).length c284_13)) (ds := []) q30_31 (by kernel_rfl) rfl rfl ⟨(blk_cell BK283.out 0).trans rfl, (blk_cell BK283.out 1).trans rfl, (blk_cell BK283.out 2).trans rfl, (blk_cell BK283.out 3).trans rfl, (blk_cell BK283.out 4).trans rfl, (blk_cell BK283.out 5).trans rfl, (blk_cell BK283.out 6).trans rfl, (blk_cell BK283.out 7).trans rfl, (blk_cell BK283.out 8).trans rfl, (blk_cell BK283.out 9).trans rfl, (blk_cell BK283.out 10).trans rfl, (blk_cell BK283.out 11).trans rfl, (blk_cell BK283.out 12).trans rfl, ((HB.out.cell (World.block_lt_of_cell? w _ hw284_0)).trans hw284_0), ((HB.out.cell (World.block_lt_of_cell? w _ hw284_1)).trans hw284_1), ((HB.out.cell (World.block_lt_of_cell? w _ hw284_2)).trans hw284_2), ((HB.out.cell (World.block_lt_of_cell? w _ hw284_3)).trans hw284_3), ((HB.out.cell (World.block_lt_of_cell? w _ hw284_4)).trans hw284_4), ((HB.out.cell (World.block_lt_of_cell? w _ hw284_5)).trans hw284_5), ((HB.out.cell (World.block_lt_of_cell? w _ hw284_6)).trans hw284_6), ((HB.out.cell (World.block_lt_of_cell? w _ hw284_7)).trans hw284_7), ((HB.out.cell (World.block_lt_of_cell? w _ hw284_8)).trans hw284_8), ((HB.out.cell (World.block_lt_of_cell? w _ hw284_9)).trans hw284_9), ((HB.out.cell (World.block_lt_of_cell? w _ hw284_10)).trans hw284_10), ((HB.out.cell (World.block_lt_of_cell? w _ hw284_11)).trans hw284_11), ((HB.out.cell (World.block_lt_of_cell? w _ hw284_12)).trans hw284_12), ((HB.out.cell (World.block_lt_of_cell? w _ hw284_13)).trans hw284_13)⟩ (fun hHeld => ?_); refine with_tabW colloquyref10_first.tab5 colloquyref10_first.bits5 (fun HT_ HW_ => ?_)
          generalize w25.drew = w26 at BK283 HB HR284_13 hx284_0 hx284_1 hx284_10 hx284_11 hx284_12 hx284_13 hx284_2 hx284_3 hx284_4 hx284_5 hx284_6 hx284_7 hx284_8 hx284_9 hHeld ⊢
          refine pure_ (i := 0) (N := some 19) (v := ?_) (a' := ?_) q30_32 rfl rfl (any_of HT_.out (by kernel_rfl)) (fun _ _ _ h => h) (Or.inl ⟨by rfl, ?_⟩) ?_ ?_
          rotate_left
          ·
           intro w'
           go_simp
           with_reducible rfl
          rotate_left
          ·
           simp only [Act.put, List.setIfInBounds_toArray, List.set_cons_zero, List.set_cons_succ, i64_w, i32_w]
           rfl
          refine pure_ (i := 2) (N := some 21) (v := ?_) (a' := ?_) q30_33 rfl rfl (any_of HT_.out (by kernel_rfl)) (fun _ _ _ h => h) (Or.inl ⟨by rfl, ?_⟩) ?_ ?_
          rotate_left
          ·
           intro w'
           go_simp
           with_reducible rfl
          rotate_left
          ·
           simp only [Act.put, List.setIfInBounds_toArray, List.set_cons_zero, List.set_cons_succ, i64_w, i32_w]
           rfl
          refine pure_ (i := 3) (N := some 22) (v := ?_) (a' := ?_) q30_34 rfl rfl (any_of HT_.out (by kernel_rfl)) (fun _ _ _ h => h) (Or.inl ⟨by rfl, ?_⟩) ?_ ?_
          rotate_left
          ·
           intro w'
           go_simp
           with_reducible rfl
          rotate_left
          ·
           simp only [Act.put, List.setIfInBounds_toArray, List.set_cons_zero, List.set_cons_succ, i64_w, i32_w]
           rfl
          refine pure_ (i := 4) (N := some 23) (v := ?_) (a' := ?_) q30_35 rfl rfl (any_of HT_.out (by kernel_rfl)) (fun _ _ _ h => h) (Or.inl ⟨by rfl, ?_⟩) ?_ ?_
          rotate_left
          ·
           intro w'
           go_simp
           with_reducible rfl
          rotate_left
          ·
           simp only [Act.put, List.setIfInBounds_toArray, List.set_cons_zero, List.set_cons_succ, i64_w, i32_w]
           rfl
          refine pure_ (i := 5) (N := some 24) (v := ?_) (a' := ?_) q30_36 rfl rfl (any_of HT_.out (by kernel_rfl)) (fun _ _ _ h => h) (Or.inl ⟨by rfl, ?_⟩) ?_ ?_
          rotate_left
          ·
           intro w'
           go_simp
           with_reducible rfl
          rotate_left
          ·
           simp only [Act.put, List.setIfInBounds_toArray, List.set_cons_zero, List.set_cons_succ, i64_w, i32_w]
           rfl
          refine take_ (i := 1) (N := some 20) (v := ?_) (a' := ?_) q30_37 rfl rfl (take_ofW HT_.out HW_.out (by kernel_rfl)) (fun _ _ _ h => h) (Or.inl ⟨by rfl, ?_⟩) hHeld ?_ ?_
          rotate_left
          ·
           rintro w' ⟨s0, s1, s2, s3, s4, s5, s6, s7, s8, s9, s10, s11, s12, s13, s14, s15, s16, s17, s18, s19, s20, s21, s22, s23, s24, s25, s26⟩
           go_simp
           with_reducible rfl
          rotate_left
          ·
           simp only [Act.put, List.setIfInBounds_toArray, List.set_cons_zero, List.set_cons_succ, i64_w, i32_w]
           rfl
          refine take_ (i := 6) (N := some 25) (v := ?_) (a' := ?_) q30_38 rfl rfl (take_ofW HT_.out HW_.out (by kernel_rfl)) (fun _ _ _ h => h) (Or.inl ⟨by rfl, ?_⟩) hHeld ?_ ?_
          rotate_left
          ·
           rintro w' ⟨s0, s1, s2, s3, s4, s5, s6, s7, s8, s9, s10, s11, s12, s13, s14, s15, s16, s17, s18, s19, s20, s21, s22, s23, s24, s25, s26⟩
           go_simp
           with_reducible rfl
          rotate_left
          ·
           simp only [Act.put, List.setIfInBounds_toArray, List.set_cons_zero, List.set_cons_succ, i64_w, i32_w]
           rfl
          refine one_ (i := 7) (N := some 26) q30_39 rfl rfl (one_of HT_.out (by kernel_rfl)) (by decide) (fun K hK => ?_)
          refine goes_ Try.func18 (by kernel_rfl) rfl #[.agg #[.int .i64 ((rd_T35 l1 x5_1).f1.f4.f0), .slice A282_13 ((rd_T35 l1 x5_1).f1.f4.f1).length c282_13], .agg #[.int .i64 ((rd_T35 l1 0).f1.f4.f0), .slice A284_13 ((rd_T35 l1 0).f1.f4.f1).length c284_13]] (by rfl) rfl rfl (by (try simp only [List.map_toArray, List.map_cons, List.map_nil]); first | done | rfl | (simp only [List.length_drop, List.length_take]; rfl)) ?_
          with_reducible refine (colloquyref06_Same.calls k1 ((rd_T35 l1 x5_1).f1.f4.f0) _ _ ((rd_T35 l1 x5_1).f1.f4.f1) ((rd_T35 l1 0).f1.f4.f0) _ _ ((rd_T35 l1 0).f1.f4.f1) true _ ?side1 ?side2 ?side3 ?side4 A6.out).mono ?_
          (case side1 => repeat (first | exact (Kd.C_below HR282_13.out HB.out) | (with_reducible refine Kd.C_alloc ?_ _) | (with_reducible refine Kd.C_drewN ?_ _) | (with_reducible refine Kd.C_drew ?_)))
          (case side2 => exact HC282_13.out)
          (case side3 => repeat (first | exact (Kd.C_below HR284_13.out HB.out) | (with_reducible refine Kd.C_alloc ?_ _) | (with_reducible refine Kd.C_drewN ?_ _) | (with_reducible refine Kd.C_drew ?_)))
          (case side4 => exact HC284_13.out)
          rintro e w27 ⟨rfl, hb⟩
          refine ⟨_, rfl, ?_⟩
          have n0_ := Aside0.mk (blk_below (g := gb283) (bk BK283) hb)
          have n1_ := Aside0.mk (below_step (gw_ HB) hb)
          clear BK283
          clear HB
          have BK283 := n0_
          have HB := n1_
          clear n0_ n1_
          (try clear hb)
          (try clear hb2)
          (try clear hk)
          (try clear hi)
          refine hK.out _ _ ⟨(blk_cell BK283.out 0).trans rfl, (blk_cell BK283.out 1).trans rfl, (blk_cell BK283.out 2).trans rfl, (blk_cell BK283.out 3).trans rfl, (blk_cell BK283.out 4).trans rfl, (blk_cell BK283.out 5).trans rfl, (blk_cell BK283.out 6).trans rfl, (blk_cell BK283.out 7).trans rfl, (blk_cell BK283.out 8).trans rfl, (blk_cell BK283.out 9).trans rfl, (blk_cell BK283.out 10).trans rfl, (blk_cell BK283.out 11).trans rfl, (blk_cell BK283.out 12).trans rfl, ((HB.out.cell (World.block_lt_of_cell? w _ hw284_0)).trans hw284_0), ((HB.out.cell (World.block_lt_of_cell? w _ hw284_1)).trans hw284_1), ((HB.out.cell (World.block_lt_of_cell? w _ hw284_2)).trans hw284_2), ((HB.out.cell (World.block_lt_of_cell? w _ hw284_3)).trans hw284_3), ((HB.out.cell (World.block_lt_of_cell? w _ hw284_4)).trans hw284_4), ((HB.out.cell (World.block_lt_of_cell? w _ hw284_5)).trans hw284_5), ((HB.out.cell (World.block_lt_of_cell? w _ hw284_6)).trans hw284_6), ((HB.out.cell (World.block_lt_of_cell? w _ hw284_7)).trans hw284_7), ((HB.out.cell (World.block_lt_of_cell? w _ hw284_8)).trans hw284_8), ((HB.out.cell (World.block_lt_of_cell? w _ hw284_9)).trans hw284_9), ((HB.out.cell (World.block_lt_of_cell? w _ hw284_10)).trans hw284_10), ((HB.out.cell (World.block_lt_of_cell? w _ hw284_11)).trans hw284_11), ((HB.out.cell (World.block_lt_of_cell? w _ hw284_12)).trans hw284_12), ((HB.out.cell (World.block_lt_of_cell? w _ hw284_13)).trans hw284_13)⟩ (fun hHeld => ?_)
          clear hK K
          refine norm_ (a' := ?_) ?_ ?_
          rotate_left
          ·
           show Act.put _ (some 26) _ = _
           simp only [Act.put, List.setIfInBounds_toArray, List.set_cons_zero, List.set_cons_succ, i64_w, i32_w]
           rfl
          refine pure_ (i := 8) (N := some 7) (v := ?_) (a' := ?_) q30_40 rfl rfl (any_of HT_.out (by kernel_rfl)) (fun _ _ _ h => h) (Or.inl ⟨by rfl, ?_⟩) ?_ ?_
          rotate_left
          ·
           intro w'
           go_simp
           with_reducible rfl
          rotate_left
          ·
           simp only [Act.put, List.setIfInBounds_toArray, List.set_cons_zero, List.set_cons_succ, i64_w, i32_w]
           rfl
          refine done_ (done_of HT_.out (by kernel_rfl)) ?_
          try go_wp2
          have n0_ := Aside0.mk (blk_drew BK283.out)
          have n1_ := Aside0.mk (below_drew1 HB.out)
          clear BK283
          clear HB
          have BK283 := n0_
          have HB := n1_
          clear n0_ n1_
          have p286 : 0 ≤ (0 : Int) := (by omega)
          have q286 : 0 < (l1.length : Int) := of_decide_eq_true (by first | (with_reducible assumption) | assumption)
          obtain ⟨ad286, A286_13, c286_13, e286, hx286_0, hx286_1, hx286_2, hx286_3, hx286_4, hx286_5, hx286_6, hx286_7, hx286_8, hx286_9, hx286_10, hx286_11, hx286_12, hx286_13, hl286_13, hi286_13⟩ := at_T35 HR1.out 0 p286 q286
          have hw286_13 := hx286_13
          (try rw [show ((0 : Int)).toNat = 0 from rfl] at hw286_13)
          (try rw [show 0 * 14 = 0 from rfl] at hw286_13)
          (try rw [Addr.add_zero'] at hw286_13)
          have hw286_12 := hx286_12
          (try rw [show ((0 : Int)).toNat = 0 from rfl] at hw286_12)
          (try rw [show 0 * 14 = 0 from rfl] at hw286_12)
          (try rw [Addr.add_zero'] at hw286_12)
          have hw286_11 := hx286_11
          (try rw [show ((0 : Int)).toNat = 0 from rfl] at hw286_11)
          (try rw [show 0 * 14 = 0 from rfl] at hw286_11)
          (try rw [Addr.add_zero'] at hw286_11)
          have hw286_10 := hx286_10
          (try rw [show ((0 : Int)).toNat = 0 from rfl] at hw286_10)
          (try rw [show 0 * 14 = 0 from rfl] at hw286_10)
          (try rw [Addr.add_zero'] at hw286_10)
          have hw286_9 := hx286_9
          (try rw [show ((0 : Int)).toNat = 0 from rfl] at hw286_9)
          (try rw [show 0 * 14 = 0 from rfl] at hw286_9)
          (try rw [Addr.add_zero'] at hw286_9)
          have hw286_8 := hx286_8
          (try rw [show ((0 : Int)).toNat = 0 from rfl] at hw286_8)
          (try rw [show 0 * 14 = 0 from rfl] at hw286_8)
          (try rw [Addr.add_zero'] at hw286_8)
          have hw286_7 := hx286_7
          (try rw [show ((0 : Int)).toNat = 0 from rfl] at hw286_7)
          (try rw [show 0 * 14 = 0 from rfl] at hw286_7)
          (try rw [Addr.add_zero'] at hw286_7)
          have hw286_6 := hx286_6
          (try rw [show ((0 : Int)).toNat = 0 from rfl] at hw286_6)
          (try rw [show 0 * 14 = 0 from rfl] at hw286_6)
          (try rw [Addr.add_zero'] at hw286_6)
          have hw286_5 := hx286_5
          (try rw [show ((0 : Int)).toNat = 0 from rfl] at hw286_5)
          (try rw [show 0 * 14 = 0 from rfl] at hw286_5)
          (try rw [Addr.add_zero'] at hw286_5)
          have hw286_4 := hx286_4
          (try rw [show ((0 : Int)).toNat = 0 from rfl] at hw286_4)
          (try rw [show 0 * 14 = 0 from rfl] at hw286_4)
          (try rw [Addr.add_zero'] at hw286_4)
          have hw286_3 := hx286_3
          (try rw [show ((0 : Int)).toNat = 0 from rfl] at hw286_3)
          (try rw [show 0 * 14 = 0 from rfl] at hw286_3)
          (try rw [Addr.add_zero'] at hw286_3)
          have hw286_2 := hx286_2
          (try rw [show ((0 : Int)).toNat = 0 from rfl] at hw286_2)
          (try rw [show 0 * 14 = 0 from rfl] at hw286_2)
          (try rw [Addr.add_zero'] at hw286_2)
          have hw286_1 := hx286_1
          (try rw [show ((0 : Int)).toNat = 0 from rfl] at hw286_1)
          (try rw [show 0 * 14 = 0 from rfl] at hw286_1)
          (try rw [Addr.add_zero'] at hw286_1)
          have hw286_0 := hx286_0
          (try rw [show ((0 : Int)).toNat = 0 from rfl] at hw286_0)
          (try rw [show 0 * 14 = 0 from rfl] at hw286_0)
          (try rw [Addr.add_zero'] at hw286_0)
          obtain rfl : ad282 = ad286 := (by injection e286)
          have qi286 : (0 < l1.length) = True := eq_true (by omega)
          (try rw [show ((0 : Int)).toNat = 0 from rfl] at hx286_0)
          (try rw [show 0 * 14 = 0 from rfl] at hx286_0)
          (try rw [Addr.add_zero'] at hx286_0)
          (try rw [show ((0 : Int)).toNat = 0 from rfl] at hx286_1)
          (try rw [show 0 * 14 = 0 from rfl] at hx286_1)
          (try rw [Addr.add_zero'] at hx286_1)
          (try rw [show ((0 : Int)).toNat = 0 from rfl] at hx286_2)
          (try rw [show 0 * 14 = 0 from rfl] at hx286_2)
          (try rw [Addr.add_zero'] at hx286_2)
          (try rw [show ((0 : Int)).toNat = 0 from rfl] at hx286_3)
          (try rw [show 0 * 14 = 0 from rfl] at hx286_3)
          (try rw [Addr.add_zero'] at hx286_3)
          (try rw [show ((0 : Int)).toNat = 0 from rfl] at hx286_4)
          (try rw [show 0 * 14 = 0 from rfl] at hx286_4)
          (try rw [Addr.add_zero'] at hx286_4)
          (try rw [show ((0 : Int)).toNat = 0 from rfl] at hx286_5)
          (try rw [show 0 * 14 = 0 from rfl] at hx286_5)
          (try rw [Addr.add_zero'] at hx286_5)
          (try rw [show ((0 : Int)).toNat = 0 from rfl] at hx286_6)
          (try rw [show 0 * 14 = 0 from rfl] at hx286_6)
          (try rw [Addr.add_zero'] at hx286_6)
          (try rw [show ((0 : Int)).toNat = 0 from rfl] at hx286_7)
          (try rw [show 0 * 14 = 0 from rfl] at hx286_7)
          (try rw [Addr.add_zero'] at hx286_7)
          (try rw [show ((0 : Int)).toNat = 0 from rfl] at hx286_8)
          (try rw [show 0 * 14 = 0 from rfl] at hx286_8)
          (try rw [Addr.add_zero'] at hx286_8)
          (try rw [show ((0 : Int)).toNat = 0 from rfl] at hx286_9)
          (try rw [show 0 * 14 = 0 from rfl] at hx286_9)
          (try rw [Addr.add_zero'] at hx286_9)
          (try rw [show ((0 : Int)).toNat = 0 from rfl] at hx286_10)
          (try rw [show 0 * 14 = 0 from rfl] at hx286_10)
          (try rw [Addr.add_zero'] at hx286_10)
          (try rw [show ((0 : Int)).toNat = 0 from rfl] at hx286_11)
          (try rw [show 0 * 14 = 0 from rfl] at hx286_11)
          (try rw [Addr.add_zero'] at hx286_11)
          (try rw [show ((0 : Int)).toNat = 0 from rfl] at hx286_12)
          (try rw [show 0 * 14 = 0 from rfl] at hx286_12)
          (try rw [Addr.add_zero'] at hx286_12)
          (try rw [show ((0 : Int)).toNat = 0 from rfl] at hx286_13)
          (try rw [show 0 * 14 = 0 from rfl] at hx286_13)
          (try rw [Addr.add_zero'] at hx286_13)
          replace hx286_0 := (HB.out.cell (World.block_lt_of_cell? w _ hx286_0)).trans hx286_0
          replace hx286_1 := (HB.out.cell (World.block_lt_of_cell? w _ hx286_1)).trans hx286_1
          replace hx286_2 := (HB.out.cell (World.block_lt_of_cell? w _ hx286_2)).trans hx286_2
          replace hx286_3 := (HB.out.cell (World.block_lt_of_cell? w _ hx286_3)).trans hx286_3
          replace hx286_4 := (HB.out.cell (World.block_lt_of_cell? w _ hx286_4)).trans hx286_4
          replace hx286_5 := (HB.out.cell (World.block_lt_of_cell? w _ hx286_5)).trans hx286_5
          replace hx286_6 := (HB.out.cell (World.block_lt_of_cell? w _ hx286_6)).trans hx286_6
          replace hx286_7 := (HB.out.cell (World.block_lt_of_cell? w _ hx286_7)).trans hx286_7
          replace hx286_8 := (HB.out.cell (World.block_lt_of_cell? w _ hx286_8)).trans hx286_8
          replace hx286_9 := (HB.out.cell (World.block_lt_of_cell? w _ hx286_9)).trans hx286_9
          replace hx286_10 := (HB.out.cell (World.block_lt_of_cell? w _ hx286_10)).trans hx286_10
          replace hx286_11 := (HB.out.cell (World.block_lt_of_cell? w _ hx286_11)).trans hx286_11
          replace hx286_12 := (HB.out.cell (World.block_lt_of_cell? w _ hx286_12)).trans hx286_12
          replace hx286_13 := (HB.out.cell (World.block_lt_of_cell? w _ hx286_13)).trans hx286_13
          have HR286_13 := Aside0.mk hi286_13
          have HC286_13 := Aside0.mk hl286_13
          clear hi286_13 hl286_13
          replace p286 := eq_true p286
          replace q286 := eq_true q286
          refine start_ (n := 24) (S := fun w' => w'.cell? ⟨gb283, 0, none⟩ = some (.int .i64 ((rd_T35 l1 x5_1).f1.f0)) ∧ w'.cell? ⟨gb283, 1, none⟩ = some (.int .i64 ((rd_T35 l1 x5_1).f1.f1.f0)) ∧ w'.cell? ⟨gb283, 2, none⟩ = some (.int .i64 ((rd_T35 l1 x5_1).f1.f1.f1)) ∧ w'.cell? ⟨gb283, 3, none⟩ = some (.int .i64 ((rd_T35 l1 x5_1).f1.f2.f0)) ∧ w'.cell? ⟨gb283, 4, none⟩ = some (.int .i64 ((rd_T35 l1 x5_1).f1.f2.f1)) ∧ w'.cell? ⟨gb283, 5, none⟩ = some (.int .i64 ((rd_T35 l1 x5_1).f1.f3.f0)) ∧ w'.cell? ⟨gb283, 6, none⟩ = some (.int .i64 ((rd_T35 l1 x5_1).f1.f3.f1)) ∧ w'.cell? ⟨gb283, 7, none⟩ = some (.int .i64 ((rd_T35 l1 x5_1).f1.f3.f2)) ∧ w'.cell? ⟨gb283, 8, none⟩ = some (.int .i64 ((rd_T35 l1 x5_1).f1.f3.f3)) ∧ w'.cell? ⟨gb283, 9, none⟩ = some (.int .i64 ((rd_T35 l1 x5_1).f1.f3.f4)) ∧ w'.cell? ⟨gb283, 10, none⟩ = some (.string ((rd_T35 l1 x5_1).f1.f3.f5)) ∧ w'.cell? ⟨gb283, 11, none⟩ = some (.int .i64 ((rd_T35 l1 x5_1).f1.f4.f0)) ∧ w'.cell? ⟨gb283, 12, none⟩ = some (.slice A282_13 ((rd_T35 l1 x5_1).f1.f4.f1).length c282_13) ∧ w'.cell? ad282 = some (.int .i64 ((rd_T35 l1 0).f0)) ∧ w'.cell? ⟨ad282.block, ad282.off + 1, none⟩ = some (.int .i64 ((rd_T35 l1 0).f1.f0)) ∧ w'.cell? ⟨ad282.block, ad282.off + 2, none⟩ = some (.int .i64 ((rd_T35 l1 0).f1.f1.f0)) ∧ w'.cell? ⟨ad282.block, ad282.off + 3, none⟩ = some (.int .i64 ((rd_T35 l1 0).f1.f1.f1)) ∧ w'.cell? ⟨ad282.block, ad282.off + 4, none⟩ = some (.int .i64 ((rd_T35 l1 0).f1.f2.f0)) ∧ w'.cell? ⟨ad282.block, ad282.off + 5, none⟩ = some (.int .i64 ((rd_T35 l1 0).f1.f2.f1)) ∧ w'.cell? ⟨ad282.block, ad282.off + 6, none⟩ = some (.int .i64 ((rd_T35 l1 0).f1.f3.f0)) ∧ w'.cell? ⟨ad282.block, ad282.off + 7, none⟩ = some (.int .i64 ((rd_T35 l1 0).f1.f3.f1)) ∧ w'.cell? ⟨ad282.block, ad282.off + 8, none⟩ = some (.int .i64 ((rd_T35 l1 0).f1.f3.f2)) ∧ w'.cell? ⟨ad282.block, ad282.off + 9, none⟩ = some (.int .i64 ((rd_T35 l1 0).f1.f3.f3)) ∧ w'.cell? ⟨ad282.block, ad282.off + 10, none⟩ = some (.int .i64 ((rd_T35 l1 0).f1.f3.f4)) ∧ w'.cell? ⟨ad282.block, ad282.off + 11, none⟩ = some (.string ((rd_T35 l1 0).f1.f3.f5)) ∧ w'.cell? ⟨ad282.block, ad282.off + 12, none⟩ = some (.int .i64 ((rd_T35 l1 0).f1.f4.f0)) ∧ w'.cell? ⟨ad282.block, ad282.off + 13, none⟩ = some (.slice A286_13 ((rd_T35 l1 0).f1.f4.f1).length c286_13)) (ds := []) q30_0 (by kernel_rfl) rfl rfl ⟨(blk_cell BK283.out 0).trans rfl, (blk_cell BK283.out 1).trans rfl, (blk_cell BK283.out 2).trans rfl, (blk_cell BK283.out 3).trans rfl, (blk_cell BK283.out 4).trans rfl, (blk_cell BK283.out 5).trans rfl, (blk_cell BK283.out 6).trans rfl, (blk_cell BK283.out 7).trans rfl, (blk_cell BK283.out 8).trans rfl, (blk_cell BK283.out 9).trans rfl, (blk_cell BK283.out 10).trans rfl, (blk_cell BK283.out 11).trans rfl, (blk_cell BK283.out 12).trans rfl, ((HB.out.cell (World.block_lt_of_cell? w _ hw286_0)).trans hw286_0), ((HB.out.cell (World.block_lt_of_cell? w _ hw286_1)).trans hw286_1), ((HB.out.cell (World.block_lt_of_cell? w _ hw286_2)).trans hw286_2), ((HB.out.cell (World.block_lt_of_cell? w _ hw286_3)).trans hw286_3), ((HB.out.cell (World.block_lt_of_cell? w _ hw286_4)).trans hw286_4), ((HB.out.cell (World.block_lt_of_cell? w _ hw286_5)).trans hw286_5), ((HB.out.cell (World.block_lt_of_cell? w _ hw286_6)).trans hw286_6), ((HB.out.cell (World.block_lt_of_cell? w _ hw286_7)).trans hw286_7), ((HB.out.cell (World.block_lt_of_cell? w _ hw286_8)).trans hw286_8), ((HB.out.cell (World.block_lt_of_cell? w _ hw286_9)).trans hw286_9), ((HB.out.cell (World.block_lt_of_cell? w _ hw286_10)).trans hw286_10), ((HB.out.cell (World.block_lt_of_cell? w _ hw286_11)).trans hw286_11), ((HB.out.cell (World.block_lt_of_cell? w _ hw286_12)).trans hw286_12), ((HB.out.cell (World.block_lt_of_cell? w _ hw286_13)).trans hw286_13)⟩ (fun hHeld => ?_); refine with_tabW colloquyref10_first.tab6 colloquyref10_first.bits6 (fun HT_ HW_ => ?_)
          generalize w27.drew = w28 at BK283 HB HR286_13 hx286_0 hx286_1 hx286_10 hx286_11 hx286_12 hx286_13 hx286_2 hx286_3 hx286_4 hx286_5 hx286_6 hx286_7 hx286_8 hx286_9 hHeld ⊢
          refine pure_ (i := 0) (N := some 27) (v := ?_) (a' := ?_) q30_1 rfl rfl (any_of HT_.out (by kernel_rfl)) (fun _ _ _ h => h) (Or.inl ⟨by rfl, ?_⟩) ?_ ?_
          rotate_left
          ·
           intro w'
           go_simp
           with_reducible rfl
          rotate_left
          ·
           simp only [Act.put, List.setIfInBounds_toArray, List.set_cons_zero, List.set_cons_succ, i64_w, i32_w]
           rfl
          refine take_ (i := 1) (N := some 28) (v := ?_) (a' := ?_) q30_2 rfl rfl (take_ofW HT_.out HW_.out (by kernel_rfl)) (fun _ _ _ h => h) (Or.inl ⟨by rfl, ?_⟩) hHeld ?_ ?_
          rotate_left
          ·
           rintro w' ⟨s0, s1, s2, s3, s4, s5, s6, s7, s8, s9, s10, s11, s12, s13, s14, s15, s16, s17, s18, s19, s20, s21, s22, s23, s24, s25, s26⟩
           go_simp
           with_reducible rfl
          rotate_left
          ·
           simp only [Act.put, List.setIfInBounds_toArray, List.set_cons_zero, List.set_cons_succ, i64_w, i32_w]
           rfl
          refine pure_ (i := 2) (N := some 29) (v := ?_) (a' := ?_) q30_3 rfl rfl (any_of HT_.out (by kernel_rfl)) (fun _ _ _ h => h) (Or.inl ⟨by rfl, ?_⟩) ?_ ?_
          rotate_left
          ·
           intro w'
           go_simp
           with_reducible rfl
          rotate_left
          ·
           simp only [Act.put, List.setIfInBounds_toArray, List.set_cons_zero, List.set_cons_succ, i64_w, i32_w]
           rfl
          refine pure_ (i := 3) (N := some 30) (v := ?_) (a' := ?_) q30_4 rfl rfl (any_of HT_.out (by kernel_rfl)) (fun _ _ _ h => h) (Or.inl ⟨by rfl, ?_⟩) ?_ ?_
          rotate_left
          ·
           intro w'
           go_simp
           with_reducible rfl
          rotate_left
          ·
           simp only [Act.put, List.setIfInBounds_toArray, List.set_cons_zero, List.set_cons_succ, i64_w, i32_w]
           rfl
          refine pure_ (i := 4) (N := some 31) (v := ?_) (a' := ?_) q30_5 rfl rfl (any_of HT_.out (by kernel_rfl)) (fun _ _ _ h => h) (Or.inl ⟨by rfl, ?_⟩) ?_ ?_
          rotate_left
          ·
           intro w'
           go_simp
           with_reducible rfl
          rotate_left
          ·
           simp only [Act.put, List.setIfInBounds_toArray, List.set_cons_zero, List.set_cons_succ, i64_w, i32_w]
           rfl
          refine pure_ (i := 6) (N := some 33) (v := ?_) (a' := ?_) q30_6 rfl rfl (any_of HT_.out (by kernel_rfl)) (fun _ _ _ h => h) (Or.inl ⟨by rfl, ?_⟩) ?_ ?_
          rotate_left
          ·
           intro w'
           go_simp
           with_reducible rfl
          rotate_left
          ·
           simp only [Act.put, List.setIfInBounds_toArray, List.set_cons_zero, List.set_cons_succ, i64_w, i32_w]
           rfl
          refine pure_ (i := 7) (N := some 34) (v := ?_) (a' := ?_) q30_8 rfl rfl (any_of HT_.out (by kernel_rfl)) (fun _ _ _ h => h) (Or.inl ⟨by rfl, ?_⟩) ?_ ?_
          rotate_left
          ·
           intro w'
           go_simp
           with_reducible rfl
          rotate_left
          ·
           simp only [Act.put, List.setIfInBounds_toArray, List.set_cons_zero, List.set_cons_succ, i64_w, i32_w]
           rfl
          refine take_ (i := 5) (N := some 32) (v := ?_) (a' := ?_) q30_10 rfl rfl (take_ofW HT_.out HW_.out (by kernel_rfl)) (fun _ _ _ h => h) (Or.inl ⟨by rfl, ?_⟩) hHeld ?_ ?_
          rotate_left
          ·
           rintro w' ⟨s0, s1, s2, s3, s4, s5, s6, s7, s8, s9, s10, s11, s12, s13, s14, s15, s16, s17, s18, s19, s20, s21, s22, s23, s24, s25, s26⟩
           go_simp
           with_reducible rfl
          rotate_left
          ·
           simp only [Act.put, List.setIfInBounds_toArray, List.set_cons_zero, List.set_cons_succ, i64_w, i32_w]
           rfl
          refine pure_ (i := 8) (N := some 35) (v := ?_) (a' := ?_) q30_11 rfl rfl (any_of HT_.out (by kernel_rfl)) (fun _ _ _ h => h) (Or.inl ⟨by rfl, ?_⟩) ?_ ?_
          rotate_left
          ·
           intro w'
           go_simp
           with_reducible rfl
          rotate_left
          ·
           simp only [Act.put, List.setIfInBounds_toArray, List.set_cons_zero, List.set_cons_succ, i64_w, i32_w]
           rfl
          refine pure_ (i := 9) (N := some 36) (v := ?_) (a' := ?_) q30_12 rfl rfl (any_of HT_.out (by kernel_rfl)) (fun _ _ _ h => h) (Or.inl ⟨by rfl, ?_⟩) ?_ ?_
          rotate_left
          ·
           intro w'
           go_simp
           with_reducible rfl
          rotate_left
          ·
           simp only [Act.put, List.setIfInBounds_toArray, List.set_cons_zero, List.set_cons_succ, i64_w, i32_w]
           rfl
          refine pure_ (i := 10) (N := some 37) (v := ?_) (a' := ?_) q30_13 rfl rfl (any_of HT_.out (by kernel_rfl)) (fun _ _ _ h => h) (Or.inl ⟨by rfl, ?_⟩) ?_ ?_
          rotate_left
          ·
           intro w'
           go_simp
           with_reducible rfl
          rotate_left
          ·
           simp only [Act.put, List.setIfInBounds_toArray, List.set_cons_zero, List.set_cons_succ, i64_w, i32_w]
           rfl
          refine pure_ (i := 11) (N := some 38) (v := ?_) (a' := ?_) q30_14 rfl rfl (any_of HT_.out (by kernel_rfl)) (fun _ _ _ h => h) (Or.inl ⟨by rfl, ?_⟩) ?_ ?_
          rotate_left
          ·
           intro w'
           go_simp
           with_reducible rfl
          rotate_left
          ·
           simp only [Act.put, List.setIfInBounds_toArray, List.set_cons_zero, List.set_cons_succ, i64_w, i32_w]
           rfl
          refine pure_ (i := 13) (N := some 40) (v := ?_) (a' := ?_) q30_15 rfl rfl (any_of HT_.out (by kernel_rfl)) (fun _ _ _ h => h) (Or.inl ⟨by rfl, ?_⟩) ?_ ?_
          rotate_left
          ·
           intro w'
           go_simp
           with_reducible rfl
          rotate_left
          ·
           simp only [Act.put, List.setIfInBounds_toArray, List.set_cons_zero, List.set_cons_succ, i64_w, i32_w]
           rfl
          refine pure_ (i := 14) (N := some 41) (v := ?_) (a' := ?_) q30_17 rfl rfl (any_of HT_.out (by kernel_rfl)) (fun _ _ _ h => h) (Or.inl ⟨by rfl, ?_⟩) ?_ ?_
          rotate_left
          ·
           intro w'
           go_simp
           with_reducible rfl
          rotate_left
          ·
           simp only [Act.put, List.setIfInBounds_toArray, List.set_cons_zero, List.set_cons_succ, i64_w, i32_w]
           rfl
          refine pure_ (i := 15) (N := some 42) (v := ?_) (a' := ?_) q30_19 rfl rfl (any_of HT_.out (by kernel_rfl)) (fun _ _ _ h => h) (Or.inl ⟨by rfl, ?_⟩) ?_ ?_
          rotate_left
          ·
           intro w'
           go_simp
           with_reducible rfl
          rotate_left
          ·
           simp only [Act.put, List.setIfInBounds_toArray, List.set_cons_zero, List.set_cons_succ, i64_w, i32_w]
           rfl
          refine pure_ (i := 16) (N := some 43) (v := ?_) (a' := ?_) q30_21 rfl rfl (any_of HT_.out (by kernel_rfl)) (fun _ _ _ h => h) (Or.inl ⟨by rfl, ?_⟩) ?_ ?_
          rotate_left
          ·
           intro w'
           go_simp
           with_reducible rfl
          rotate_left
          ·
           simp only [Act.put, List.setIfInBounds_toArray, List.set_cons_zero, List.set_cons_succ, i64_w, i32_w]
           rfl
          refine take_ (i := 12) (N := some 39) (v := ?_) (a' := ?_) q30_23 rfl rfl (take_ofW HT_.out HW_.out (by kernel_rfl)) (fun _ _ _ h => h) (Or.inl ⟨by rfl, ?_⟩) hHeld ?_ ?_
          rotate_left
          ·
           rintro w' ⟨s0, s1, s2, s3, s4, s5, s6, s7, s8, s9, s10, s11, s12, s13, s14, s15, s16, s17, s18, s19, s20, s21, s22, s23, s24, s25, s26⟩
           go_simp
           with_reducible rfl
          rotate_left
          ·
           simp only [Act.put, List.setIfInBounds_toArray, List.set_cons_zero, List.set_cons_succ, i64_w, i32_w]
           rfl
          refine take_ (i := 17) (N := some 44) (v := ?_) (a' := ?_) q30_24 rfl rfl (take_ofW HT_.out HW_.out (by kernel_rfl)) (fun _ _ _ h => h) (Or.inl ⟨by rfl, ?_⟩) hHeld ?_ ?_
          rotate_left
          ·
           rintro w' ⟨s0, s1, s2, s3, s4, s5, s6, s7, s8, s9, s10, s11, s12, s13, s14, s15, s16, s17, s18, s19, s20, s21, s22, s23, s24, s25, s26⟩
           go_simp
           with_reducible rfl
          rotate_left
          ·
           simp only [Act.put, List.setIfInBounds_toArray, List.set_cons_zero, List.set_cons_succ, i64_w, i32_w]
           rfl
          refine pure_ (i := 18) (N := some 45) (v := ?_) (a' := ?_) q30_25 rfl rfl (any_of HT_.out (by kernel_rfl)) (fun _ _ _ h => h) (Or.inl ⟨by rfl, ?_⟩) ?_ ?_
          rotate_left
          ·
           intro w'
           go_simp
           with_reducible rfl
          rotate_left
          ·
           simp only [Act.put, List.setIfInBounds_toArray, List.set_cons_zero, List.set_cons_succ, i64_w, i32_w]
           rfl
          refine pure_ (i := 19) (N := some 46) (v := ?_) (a' := ?_) q30_26 rfl rfl (any_of HT_.out (by kernel_rfl)) (fun _ _ _ h => h) (Or.inl ⟨by rfl, ?_⟩) ?_ ?_
          rotate_left
          ·
           intro w'
           go_simp
           with_reducible rfl
          rotate_left
          ·
           simp only [Act.put, List.setIfInBounds_toArray, List.set_cons_zero, List.set_cons_succ, i64_w, i32_w]
           rfl
          refine pure_ (i := 20) (N := some 47) (v := ?_) (a' := ?_) q30_27 rfl rfl (any_of HT_.out (by kernel_rfl)) (fun _ _ _ h => h) (Or.inl ⟨by rfl, ?_⟩) ?_ ?_
          rotate_left
          ·
           intro w'
           go_simp
           with_reducible rfl
          rotate_left
          ·
           simp only [Act.put, List.setIfInBounds_toArray, List.set_cons_zero, List.set_cons_succ, i64_w, i32_w]
           rfl
          refine pure_ (i := 21) (N := some 48) (v := ?_) (a' := ?_) q30_28 rfl rfl (any_of HT_.out (by kernel_rfl)) (fun _ _ _ h => h) (Or.inl ⟨by rfl, ?_⟩) ?_ ?_
          rotate_left
          ·
           intro w'
           go_simp
           with_reducible rfl
          rotate_left
          ·
           simp only [Act.put, List.setIfInBounds_toArray, List.set_cons_zero, List.set_cons_succ, i64_w, i32_w]
           rfl
          refine pure_ (i := 22) (N := some 49) (v := ?_) (a' := ?_) q30_29 rfl rfl (any_of HT_.out (by kernel_rfl)) (fun _ _ _ h => h) (Or.inl ⟨by rfl, ?_⟩) ?_ ?_
          rotate_left
          ·
           intro w'
           go_simp
           with_reducible rfl
          rotate_left
          ·
           simp only [Act.put, List.setIfInBounds_toArray, List.set_cons_zero, List.set_cons_succ, i64_w, i32_w]
           rfl
          refine pure_ (i := 23) (N := some 50) (v := ?_) (a' := ?_) q30_30 rfl rfl (any_of HT_.out (by kernel_rfl)) (fun _ _ _ h => h) (Or.inl ⟨by rfl, ?_⟩) ?_ ?_
          rotate_left
          ·
           intro w'
           go_simp
           with_reducible rfl
          rotate_left
          ·
           simp only [Act.put, List.setIfInBounds_toArray, List.set_cons_zero, List.set_cons_succ, i64_w, i32_w]
           rfl
          refine done_ (done_of HT_.out (by kernel_rfl)) ?_
          try go_wp2
          go_roundg k1
          case measure => have := HK1.out; omega
          case rel => exact ⟨(wrap64 (x5_1 + 1)), (by first | rfl | (simp; done) | (simp [*]; done)), H', ⟨by have := HK1.out; omega⟩, ⟨gw_ HB⟩⟩
         ·
          replace c22 := Bool.eq_false_iff.mpr c22
          subst c22
          have H1 : (some false) = some r := by rw [if_neg (show ¬ (false = true) by decide)] at H; exact H
          clear H
          have H := H1
          clear H1
          obtain rfl := Option.some.inj H
          have p282 : 0 ≤ (x5_1 : Int) := of_decide_eq_true (by first | (with_reducible assumption) | assumption)
          have q282 : x5_1 < (l1.length : Int) := of_decide_eq_true (by first | (with_reducible assumption) | assumption)
          obtain ⟨ad282, A282_13, c282_13, e282, hx282_0, hx282_1, hx282_2, hx282_3, hx282_4, hx282_5, hx282_6, hx282_7, hx282_8, hx282_9, hx282_10, hx282_11, hx282_12, hx282_13, hl282_13, hi282_13⟩ := at_T35 HR1.out x5_1 p282 q282
          cases e282
          replace hx282_0 := (HB.out.cell (World.block_lt_of_cell? w _ hx282_0)).trans hx282_0
          replace hx282_1 := (HB.out.cell (World.block_lt_of_cell? w _ hx282_1)).trans hx282_1
          replace hx282_2 := (HB.out.cell (World.block_lt_of_cell? w _ hx282_2)).trans hx282_2
          replace hx282_3 := (HB.out.cell (World.block_lt_of_cell? w _ hx282_3)).trans hx282_3
          replace hx282_4 := (HB.out.cell (World.block_lt_of_cell? w _ hx282_4)).trans hx282_4
          replace hx282_5 := (HB.out.cell (World.block_lt_of_cell? w _ hx282_5)).trans hx282_5
          replace hx282_6 := (HB.out.cell (World.block_lt_of_cell? w _ hx282_6)).trans hx282_6
          replace hx282_7 := (HB.out.cell (World.block_lt_of_cell? w _ hx282_7)).trans hx282_7
          replace hx282_8 := (HB.out.cell (World.block_lt_of_cell? w _ hx282_8)).trans hx282_8
          replace hx282_9 := (HB.out.cell (World.block_lt_of_cell? w _ hx282_9)).trans hx282_9
          replace hx282_10 := (HB.out.cell (World.block_lt_of_cell? w _ hx282_10)).trans hx282_10
          replace hx282_11 := (HB.out.cell (World.block_lt_of_cell? w _ hx282_11)).trans hx282_11
          replace hx282_12 := (HB.out.cell (World.block_lt_of_cell? w _ hx282_12)).trans hx282_12
          replace hx282_13 := (HB.out.cell (World.block_lt_of_cell? w _ hx282_13)).trans hx282_13
          have HR282_13 := Aside0.mk hi282_13
          have HC282_13 := Aside0.mk hl282_13
          clear hi282_13 hl282_13
          replace p282 := eq_true p282
          replace q282 := eq_true q282
          try go_wp2_with (first | ((with_reducible refine gate_dst (N := 6) rfl ?_); refine box_event ?hg (N := 6) ?hd (cs := #[.int .i64 0, .int .i64 0, .int .i64 0, .int .i64 0, .int .i64 0, .int .i64 0, .int .i64 0, .int .i64 0, .int .i64 0, .int .i64 0, .string (⟨#[]⟩ : ByteArray), .int .i64 0, .slice none 0 0]) (t := 33) ?hr ?_; (case hd => rfl); (case hg => rfl); (case hr => first | (go_simp; done) | (go_simp; rfl)); intro gb283 hg w29 hbox hb; have s_ := step_size_ (gw_ HB) hb hg; have n0_ := Aside0.mk s_.1; have n1_ := Aside0.mk (hbox); have n2_ := Aside0.mk s_.2; clear s_; have n3_ := n2_; clear HB; have HB := n0_; have BK283 := n1_; have GW283 := n2_; have GE283 := n3_; clear n0_ n1_ n2_ n3_; clear hb hbox hg; obtain ⟨hcz30_0, hcz30_1, hcz30_2, hcz30_3, hcz30_4, hcz30_5, hcz30_6, hcz30_7, hcz30_8, hcz30_9, hcz30_10, hcz30_11, hcz30_12⟩ := blk_cells13 BK283.out; have hfz30_0 := blk_frozen BK283.out 0; have hfz30_1 := blk_frozen BK283.out 1; have hfz30_2 := blk_frozen BK283.out 2; have hfz30_3 := blk_frozen BK283.out 3; have hfz30_4 := blk_frozen BK283.out 4; have hfz30_5 := blk_frozen BK283.out 5; have hfz30_6 := blk_frozen BK283.out 6; have hfz30_7 := blk_frozen BK283.out 7; have hfz30_8 := blk_frozen BK283.out 8; have hfz30_9 := blk_frozen BK283.out 9; have hfz30_10 := blk_frozen BK283.out 10; have hfz30_11 := blk_frozen BK283.out 11; have hfz30_12 := blk_frozen BK283.out 12))
          have n0_ : Aside0 ((((((((((((((w29.setCell ⟨gb283, 0, none⟩ (.int .i64 ((rd_T35 l1 x5_1).f1.f0))).setCell ⟨gb283, 1, none⟩ (.int .i64 ((rd_T35 l1 x5_1).f1.f1.f0))).setCell ⟨gb283, 2, none⟩ (.int .i64 ((rd_T35 l1 x5_1).f1.f1.f1))).setCell ⟨gb283, 3, none⟩ (.int .i64 ((rd_T35 l1 x5_1).f1.f2.f0))).setCell ⟨gb283, 4, none⟩ (.int .i64 ((rd_T35 l1 x5_1).f1.f2.f1))).setCell ⟨gb283, 5, none⟩ (.int .i64 ((rd_T35 l1 x5_1).f1.f3.f0))).setCell ⟨gb283, 6, none⟩ (.int .i64 ((rd_T35 l1 x5_1).f1.f3.f1))).setCell ⟨gb283, 7, none⟩ (.int .i64 ((rd_T35 l1 x5_1).f1.f3.f2))).setCell ⟨gb283, 8, none⟩ (.int .i64 ((rd_T35 l1 x5_1).f1.f3.f3))).setCell ⟨gb283, 9, none⟩ (.int .i64 ((rd_T35 l1 x5_1).f1.f3.f4))).setCell ⟨gb283, 10, none⟩ (.string ((rd_T35 l1 x5_1).f1.f3.f5))).setCell ⟨gb283, 11, none⟩ (.int .i64 ((rd_T35 l1 x5_1).f1.f4.f0))).setCell ⟨gb283, 12, none⟩ (.slice A282_13 ((rd_T35 l1 x5_1).f1.f4.f1).length c282_13)).heap[gb283]? = some (.cells #[.int .i64 ((rd_T35 l1 x5_1).f1.f0), .int .i64 ((rd_T35 l1 x5_1).f1.f1.f0), .int .i64 ((rd_T35 l1 x5_1).f1.f1.f1), .int .i64 ((rd_T35 l1 x5_1).f1.f2.f0), .int .i64 ((rd_T35 l1 x5_1).f1.f2.f1), .int .i64 ((rd_T35 l1 x5_1).f1.f3.f0), .int .i64 ((rd_T35 l1 x5_1).f1.f3.f1), .int .i64 ((rd_T35 l1 x5_1).f1.f3.f2), .int .i64 ((rd_T35 l1 x5_1).f1.f3.f3), .int .i64 ((rd_T35 l1 x5_1).f1.f3.f4), .string ((rd_T35 l1 x5_1).f1.f3.f5), .int .i64 ((rd_T35 l1 x5_1).f1.f4.f0), .slice A282_13 ((rd_T35 l1 x5_1).f1.f4.f1).length c282_13] 33 (0, 0))) := ⟨by (with_reducible repeat (first | refine blk_drewN ?_ _ | refine blk_drew ?_ | refine blk_alloc ?_ _)); refine blk_put13 (cs := #[.int .i64 0, .int .i64 0, .int .i64 0, .int .i64 0, .int .i64 0, .int .i64 0, .int .i64 0, .int .i64 0, .int .i64 0, .int .i64 0, .string (⟨#[]⟩ : ByteArray), .int .i64 0, .slice none 0 0]) ?_ rfl; (with_reducible repeat (first | refine blk_drewN ?_ _ | refine blk_drew ?_ | refine blk_alloc ?_ _)); exact BK283.out⟩
          have n1_ : Aside0 (Below w.heap.size w (((((((((((((w29.setCell ⟨gb283, 0, none⟩ (.int .i64 ((rd_T35 l1 x5_1).f1.f0))).setCell ⟨gb283, 1, none⟩ (.int .i64 ((rd_T35 l1 x5_1).f1.f1.f0))).setCell ⟨gb283, 2, none⟩ (.int .i64 ((rd_T35 l1 x5_1).f1.f1.f1))).setCell ⟨gb283, 3, none⟩ (.int .i64 ((rd_T35 l1 x5_1).f1.f2.f0))).setCell ⟨gb283, 4, none⟩ (.int .i64 ((rd_T35 l1 x5_1).f1.f2.f1))).setCell ⟨gb283, 5, none⟩ (.int .i64 ((rd_T35 l1 x5_1).f1.f3.f0))).setCell ⟨gb283, 6, none⟩ (.int .i64 ((rd_T35 l1 x5_1).f1.f3.f1))).setCell ⟨gb283, 7, none⟩ (.int .i64 ((rd_T35 l1 x5_1).f1.f3.f2))).setCell ⟨gb283, 8, none⟩ (.int .i64 ((rd_T35 l1 x5_1).f1.f3.f3))).setCell ⟨gb283, 9, none⟩ (.int .i64 ((rd_T35 l1 x5_1).f1.f3.f4))).setCell ⟨gb283, 10, none⟩ (.string ((rd_T35 l1 x5_1).f1.f3.f5))).setCell ⟨gb283, 11, none⟩ (.int .i64 ((rd_T35 l1 x5_1).f1.f4.f0))).setCell ⟨gb283, 12, none⟩ (.slice A282_13 ((rd_T35 l1 x5_1).f1.f4.f1).length c282_13))) := ⟨gw_ HB⟩
          (try clear BK283)
          (try clear HB)
          generalize (((((((((((((w29.setCell ⟨gb283, 0, none⟩ (.int .i64 ((rd_T35 l1 x5_1).f1.f0))).setCell ⟨gb283, 1, none⟩ (.int .i64 ((rd_T35 l1 x5_1).f1.f1.f0))).setCell ⟨gb283, 2, none⟩ (.int .i64 ((rd_T35 l1 x5_1).f1.f1.f1))).setCell ⟨gb283, 3, none⟩ (.int .i64 ((rd_T35 l1 x5_1).f1.f2.f0))).setCell ⟨gb283, 4, none⟩ (.int .i64 ((rd_T35 l1 x5_1).f1.f2.f1))).setCell ⟨gb283, 5, none⟩ (.int .i64 ((rd_T35 l1 x5_1).f1.f3.f0))).setCell ⟨gb283, 6, none⟩ (.int .i64 ((rd_T35 l1 x5_1).f1.f3.f1))).setCell ⟨gb283, 7, none⟩ (.int .i64 ((rd_T35 l1 x5_1).f1.f3.f2))).setCell ⟨gb283, 8, none⟩ (.int .i64 ((rd_T35 l1 x5_1).f1.f3.f3))).setCell ⟨gb283, 9, none⟩ (.int .i64 ((rd_T35 l1 x5_1).f1.f3.f4))).setCell ⟨gb283, 10, none⟩ (.string ((rd_T35 l1 x5_1).f1.f3.f5))).setCell ⟨gb283, 11, none⟩ (.int .i64 ((rd_T35 l1 x5_1).f1.f4.f0))).setCell ⟨gb283, 12, none⟩ (.slice A282_13 ((rd_T35 l1 x5_1).f1.f4.f1).length c282_13)) = w31 at n0_ n1_ ⊢
          have BK283 := n0_
          have HB := n1_
          clear n0_ n1_
          have n0_ := Aside0.mk (blk_drew BK283.out)
          have n1_ := Aside0.mk (below_drew1 HB.out)
          clear BK283
          clear HB
          have BK283 := n0_
          have HB := n1_
          clear n0_ n1_
          have p284 : 0 ≤ (0 : Int) := (by omega)
          have q284 : 0 < (l1.length : Int) := of_decide_eq_true (by first | (with_reducible assumption) | assumption)
          obtain ⟨ad284, A284_13, c284_13, e284, hx284_0, hx284_1, hx284_2, hx284_3, hx284_4, hx284_5, hx284_6, hx284_7, hx284_8, hx284_9, hx284_10, hx284_11, hx284_12, hx284_13, hl284_13, hi284_13⟩ := at_T35 HR1.out 0 p284 q284
          have hw284_13 := hx284_13
          (try rw [show ((0 : Int)).toNat = 0 from rfl] at hw284_13)
          (try rw [show 0 * 14 = 0 from rfl] at hw284_13)
          (try rw [Addr.add_zero'] at hw284_13)
          have hw284_12 := hx284_12
          (try rw [show ((0 : Int)).toNat = 0 from rfl] at hw284_12)
          (try rw [show 0 * 14 = 0 from rfl] at hw284_12)
          (try rw [Addr.add_zero'] at hw284_12)
          have hw284_11 := hx284_11
          (try rw [show ((0 : Int)).toNat = 0 from rfl] at hw284_11)
          (try rw [show 0 * 14 = 0 from rfl] at hw284_11)
          (try rw [Addr.add_zero'] at hw284_11)
          have hw284_10 := hx284_10
          (try rw [show ((0 : Int)).toNat = 0 from rfl] at hw284_10)
          (try rw [show 0 * 14 = 0 from rfl] at hw284_10)
          (try rw [Addr.add_zero'] at hw284_10)
          have hw284_9 := hx284_9
          (try rw [show ((0 : Int)).toNat = 0 from rfl] at hw284_9)
          (try rw [show 0 * 14 = 0 from rfl] at hw284_9)
          (try rw [Addr.add_zero'] at hw284_9)
          have hw284_8 := hx284_8
          (try rw [show ((0 : Int)).toNat = 0 from rfl] at hw284_8)
          (try rw [show 0 * 14 = 0 from rfl] at hw284_8)
          (try rw [Addr.add_zero'] at hw284_8)
          have hw284_7 := hx284_7
          (try rw [show ((0 : Int)).toNat = 0 from rfl] at hw284_7)
          (try rw [show 0 * 14 = 0 from rfl] at hw284_7)
          (try rw [Addr.add_zero'] at hw284_7)
          have hw284_6 := hx284_6
          (try rw [show ((0 : Int)).toNat = 0 from rfl] at hw284_6)
          (try rw [show 0 * 14 = 0 from rfl] at hw284_6)
          (try rw [Addr.add_zero'] at hw284_6)
          have hw284_5 := hx284_5
          (try rw [show ((0 : Int)).toNat = 0 from rfl] at hw284_5)
          (try rw [show 0 * 14 = 0 from rfl] at hw284_5)
          (try rw [Addr.add_zero'] at hw284_5)
          have hw284_4 := hx284_4
          (try rw [show ((0 : Int)).toNat = 0 from rfl] at hw284_4)
          (try rw [show 0 * 14 = 0 from rfl] at hw284_4)
          (try rw [Addr.add_zero'] at hw284_4)
          have hw284_3 := hx284_3
          (try rw [show ((0 : Int)).toNat = 0 from rfl] at hw284_3)
          (try rw [show 0 * 14 = 0 from rfl] at hw284_3)
          (try rw [Addr.add_zero'] at hw284_3)
          have hw284_2 := hx284_2
          (try rw [show ((0 : Int)).toNat = 0 from rfl] at hw284_2)
          (try rw [show 0 * 14 = 0 from rfl] at hw284_2)
          (try rw [Addr.add_zero'] at hw284_2)
          have hw284_1 := hx284_1
          (try rw [show ((0 : Int)).toNat = 0 from rfl] at hw284_1)
          (try rw [show 0 * 14 = 0 from rfl] at hw284_1)
          (try rw [Addr.add_zero'] at hw284_1)
          have hw284_0 := hx284_0
          (try rw [show ((0 : Int)).toNat = 0 from rfl] at hw284_0)
          (try rw [show 0 * 14 = 0 from rfl] at hw284_0)
          (try rw [Addr.add_zero'] at hw284_0)
          obtain rfl : ad282 = ad284 := (by injection e284)
          have qi284 : (0 < l1.length) = True := eq_true (by omega)
          (try rw [show ((0 : Int)).toNat = 0 from rfl] at hx284_0)
          (try rw [show 0 * 14 = 0 from rfl] at hx284_0)
          (try rw [Addr.add_zero'] at hx284_0)
          (try rw [show ((0 : Int)).toNat = 0 from rfl] at hx284_1)
          (try rw [show 0 * 14 = 0 from rfl] at hx284_1)
          (try rw [Addr.add_zero'] at hx284_1)
          (try rw [show ((0 : Int)).toNat = 0 from rfl] at hx284_2)
          (try rw [show 0 * 14 = 0 from rfl] at hx284_2)
          (try rw [Addr.add_zero'] at hx284_2)
          (try rw [show ((0 : Int)).toNat = 0 from rfl] at hx284_3)
          (try rw [show 0 * 14 = 0 from rfl] at hx284_3)
          (try rw [Addr.add_zero'] at hx284_3)
          (try rw [show ((0 : Int)).toNat = 0 from rfl] at hx284_4)
          (try rw [show 0 * 14 = 0 from rfl] at hx284_4)
          (try rw [Addr.add_zero'] at hx284_4)
          (try rw [show ((0 : Int)).toNat = 0 from rfl] at hx284_5)
          (try rw [show 0 * 14 = 0 from rfl] at hx284_5)
          (try rw [Addr.add_zero'] at hx284_5)
          (try rw [show ((0 : Int)).toNat = 0 from rfl] at hx284_6)
          (try rw [show 0 * 14 = 0 from rfl] at hx284_6)
          (try rw [Addr.add_zero'] at hx284_6)
          (try rw [show ((0 : Int)).toNat = 0 from rfl] at hx284_7)
          (try rw [show 0 * 14 = 0 from rfl] at hx284_7)
          (try rw [Addr.add_zero'] at hx284_7)
          (try rw [show ((0 : Int)).toNat = 0 from rfl] at hx284_8)
          (try rw [show 0 * 14 = 0 from rfl] at hx284_8)
          (try rw [Addr.add_zero'] at hx284_8)
          (try rw [show ((0 : Int)).toNat = 0 from rfl] at hx284_9)
          (try rw [show 0 * 14 = 0 from rfl] at hx284_9)
          (try rw [Addr.add_zero'] at hx284_9)
          (try rw [show ((0 : Int)).toNat = 0 from rfl] at hx284_10)
          (try rw [show 0 * 14 = 0 from rfl] at hx284_10)
          (try rw [Addr.add_zero'] at hx284_10)
          (try rw [show ((0 : Int)).toNat = 0 from rfl] at hx284_11)
          (try rw [show 0 * 14 = 0 from rfl] at hx284_11)
          (try rw [Addr.add_zero'] at hx284_11)
          (try rw [show ((0 : Int)).toNat = 0 from rfl] at hx284_12)
          (try rw [show 0 * 14 = 0 from rfl] at hx284_12)
          (try rw [Addr.add_zero'] at hx284_12)
          (try rw [show ((0 : Int)).toNat = 0 from rfl] at hx284_13)
          (try rw [show 0 * 14 = 0 from rfl] at hx284_13)
          (try rw [Addr.add_zero'] at hx284_13)
          replace hx284_0 := (HB.out.cell (World.block_lt_of_cell? w _ hx284_0)).trans hx284_0
          replace hx284_1 := (HB.out.cell (World.block_lt_of_cell? w _ hx284_1)).trans hx284_1
          replace hx284_2 := (HB.out.cell (World.block_lt_of_cell? w _ hx284_2)).trans hx284_2
          replace hx284_3 := (HB.out.cell (World.block_lt_of_cell? w _ hx284_3)).trans hx284_3
          replace hx284_4 := (HB.out.cell (World.block_lt_of_cell? w _ hx284_4)).trans hx284_4
          replace hx284_5 := (HB.out.cell (World.block_lt_of_cell? w _ hx284_5)).trans hx284_5
          replace hx284_6 := (HB.out.cell (World.block_lt_of_cell? w _ hx284_6)).trans hx284_6
          replace hx284_7 := (HB.out.cell (World.block_lt_of_cell? w _ hx284_7)).trans hx284_7
          replace hx284_8 := (HB.out.cell (World.block_lt_of_cell? w _ hx284_8)).trans hx284_8
          replace hx284_9 := (HB.out.cell (World.block_lt_of_cell? w _ hx284_9)).trans hx284_9
          replace hx284_10 := (HB.out.cell (World.block_lt_of_cell? w _ hx284_10)).trans hx284_10
          replace hx284_11 := (HB.out.cell (World.block_lt_of_cell? w _ hx284_11)).trans hx284_11
          replace hx284_12 := (HB.out.cell (World.block_lt_of_cell? w _ hx284_12)).trans hx284_12
          replace hx284_13 := (HB.out.cell (World.block_lt_of_cell? w _ hx284_13)).trans hx284_13
          have HR284_13 := Aside0.mk hi284_13
          have HC284_13 := Aside0.mk hl284_13
          clear hi284_13 hl284_13
          replace p284 := eq_true p284
          replace q284 := eq_true q284
          refine start_ (n := 9) (S := fun w' => w'.cell? ⟨gb283, 0, none⟩ = some (.int .i64 ((rd_T35 l1 x5_1).f1.f0)) ∧ w'.cell? ⟨gb283, 1, none⟩ = some (.int .i64 ((rd_T35 l1 x5_1).f1.f1.f0)) ∧ w'.cell? ⟨gb283, 2, none⟩ = some (.int .i64 ((rd_T35 l1 x5_1).f1.f1.f1)) ∧ w'.cell? ⟨gb283, 3, none⟩ = some (.int .i64 ((rd_T35 l1 x5_1).f1.f2.f0)) ∧ w'.cell? ⟨gb283, 4, none⟩ = some (.int .i64 ((rd_T35 l1 x5_1).f1.f2.f1)) ∧ w'.cell? ⟨gb283, 5, none⟩ = some (.int .i64 ((rd_T35 l1 x5_1).f1.f3.f0)) ∧ w'.cell? ⟨gb283, 6, none⟩ = some (.int .i64 ((rd_T35 l1 x5_1).f1.f3.f1)) ∧ w'.cell? ⟨gb283, 7, none⟩ = some (.int .i64 ((rd_T35 l1 x5_1).f1.f3.f2)) ∧ w'.cell? ⟨gb283, 8, none⟩ = some (.int .i64 ((rd_T35 l1 x5_1).f1.f3.f3)) ∧ w'.cell? ⟨gb283, 9, none⟩ = some (.int .i64 ((rd_T35 l1 x5_1).f1.f3.f4)) ∧ w'.cell? ⟨gb283, 10, none⟩ = some (.string ((rd_T35 l1 x5_1).f1.f3.f5)) ∧ w'.cell? ⟨gb283, 11, none⟩ = some (.int .i64 ((rd_T35 l1 x5_1).f1.f4.f0)) ∧ w'.cell? ⟨gb283, 12, none⟩ = some (.slice A282_13 ((rd_T35 l1 x5_1).f1.f4.f1).length c282_13) ∧ w'.cell? ad282 = some (.int .i64 ((rd_T35 l1 0).f0)) ∧ w'.cell? ⟨ad282.block, ad282.off + 1, none⟩ = some (.int .i64 ((rd_T35 l1 0).f1.f0)) ∧ w'.cell? ⟨ad282.block, ad282.off + 2, none⟩ = some (.int .i64 ((rd_T35 l1 0).f1.f1.f0)) ∧ w'.cell? ⟨ad282.block, ad282.off + 3, none⟩ = some (.int .i64 ((rd_T35 l1 0).f1.f1.f1)) ∧ w'.cell? ⟨ad282.block, ad282.off + 4, none⟩ = some (.int .i64 ((rd_T35 l1 0).f1.f2.f0)) ∧ w'.cell? ⟨ad282.block, ad282.off + 5, none⟩ = some (.int .i64 ((rd_T35 l1 0).f1.f2.f1)) ∧ w'.cell? ⟨ad282.block, ad282.off + 6, none⟩ = some (.int .i64 ((rd_T35 l1 0).f1.f3.f0)) ∧ w'.cell? ⟨ad282.block, ad282.off + 7, none⟩ = some (.int .i64 ((rd_T35 l1 0).f1.f3.f1)) ∧ w'.cell? ⟨ad282.block, ad282.off + 8, none⟩ = some (.int .i64 ((rd_T35 l1 0).f1.f3.f2)) ∧ w'.cell? ⟨ad282.block, ad282.off + 9, none⟩ = some (.int .i64 ((rd_T35 l1 0).f1.f3.f3)) ∧ w'.cell? ⟨ad282.block, ad282.off + 10, none⟩ = some (.int .i64 ((rd_T35 l1 0).f1.f3.f4)) ∧ w'.cell? ⟨ad282.block, ad282.off + 11, none⟩ = some (.string ((rd_T35 l1 0).f1.f3.f5)) ∧ w'.cell? ⟨ad282.block, ad282.off + 12, none⟩ = some (.int .i64 ((rd_T35 l1 0).f1.f4.f0)) ∧ w'.cell? ⟨ad282.block, ad282.off + 13, none⟩ = some (.slice A284_13 ((rd_T35 l1 0).f1.f4.f1).length c284_13)) (ds := []) q30_31 (by kernel_rfl) rfl rfl ⟨(blk_cell BK283.out 0).trans rfl, (blk_cell BK283.out 1).trans rfl, (blk_cell BK283.out 2).trans rfl, (blk_cell BK283.out 3).trans rfl, (blk_cell BK283.out 4).trans rfl, (blk_cell BK283.out 5).trans rfl, (blk_cell BK283.out 6).trans rfl, (blk_cell BK283.out 7).trans rfl, (blk_cell BK283.out 8).trans rfl, (blk_cell BK283.out 9).trans rfl, (blk_cell BK283.out 10).trans rfl, (blk_cell BK283.out 11).trans rfl, (blk_cell BK283.out 12).trans rfl, ((HB.out.cell (World.block_lt_of_cell? w _ hw284_0)).trans hw284_0), ((HB.out.cell (World.block_lt_of_cell? w _ hw284_1)).trans hw284_1), ((HB.out.cell (World.block_lt_of_cell? w _ hw284_2)).trans hw284_2), ((HB.out.cell (World.block_lt_of_cell? w _ hw284_3)).trans hw284_3), ((HB.out.cell (World.block_lt_of_cell? w _ hw284_4)).trans hw284_4), ((HB.out.cell (World.block_lt_of_cell? w _ hw284_5)).trans hw284_5), ((HB.out.cell (World.block_lt_of_cell? w _ hw284_6)).trans hw284_6), ((HB.out.cell (World.block_lt_of_cell? w _ hw284_7)).trans hw284_7), ((HB.out.cell (World.block_lt_of_cell? w _ hw284_8)).trans hw284_8), ((HB.out.cell (World.block_lt_of_cell? w _ hw284_9)).trans hw284_9), ((HB.out.cell (World.block_lt_of_cell? w _ hw284_10)).trans hw284_10), ((HB.out.cell (World.block_lt_of_cell? w _ hw284_11)).trans hw284_11), ((HB.out.cell (World.block_lt_of_cell? w _ hw284_12)).trans hw284_12), ((HB.out.cell (World.block_lt_of_cell? w _ hw284_13)).trans hw284_13)⟩ (fun hHeld => ?_); refine with_tabW colloquyref10_first.tab5 colloquyref10_first.bits5 (fun HT_ HW_ => ?_)
          generalize w31.drew = w32 at BK283 HB HR284_13 hx284_0 hx284_1 hx284_10 hx284_11 hx284_12 hx284_13 hx284_2 hx284_3 hx284_4 hx284_5 hx284_6 hx284_7 hx284_8 hx284_9 hHeld ⊢
          refine pure_ (i := 0) (N := some 19) (v := ?_) (a' := ?_) q30_32 rfl rfl (any_of HT_.out (by kernel_rfl)) (fun _ _ _ h => h) (Or.inl ⟨by rfl, ?_⟩) ?_ ?_
          rotate_left
          ·
           intro w'
           go_simp
           with_reducible rfl
          rotate_left
          ·
           simp only [Act.put, List.setIfInBounds_toArray, List.set_cons_zero, List.set_cons_succ, i64_w, i32_w]
           rfl
          refine pure_ (i := 2) (N := some 21) (v := ?_) (a' := ?_) q30_33 rfl rfl (any_of HT_.out (by kernel_rfl)) (fun _ _ _ h => h) (Or.inl ⟨by rfl, ?_⟩) ?_ ?_
          rotate_left
          ·
           intro w'
           go_simp
           with_reducible rfl
          rotate_left
          ·
           simp only [Act.put, List.setIfInBounds_toArray, List.set_cons_zero, List.set_cons_succ, i64_w, i32_w]
           rfl
          refine pure_ (i := 3) (N := some 22) (v := ?_) (a' := ?_) q30_34 rfl rfl (any_of HT_.out (by kernel_rfl)) (fun _ _ _ h => h) (Or.inl ⟨by rfl, ?_⟩) ?_ ?_
          rotate_left
          ·
           intro w'
           go_simp
           with_reducible rfl
          rotate_left
          ·
           simp only [Act.put, List.setIfInBounds_toArray, List.set_cons_zero, List.set_cons_succ, i64_w, i32_w]
           rfl
          refine pure_ (i := 4) (N := some 23) (v := ?_) (a' := ?_) q30_35 rfl rfl (any_of HT_.out (by kernel_rfl)) (fun _ _ _ h => h) (Or.inl ⟨by rfl, ?_⟩) ?_ ?_
          rotate_left
          ·
           intro w'
           go_simp
           with_reducible rfl
          rotate_left
          ·
           simp only [Act.put, List.setIfInBounds_toArray, List.set_cons_zero, List.set_cons_succ, i64_w, i32_w]
           rfl
          refine pure_ (i := 5) (N := some 24) (v := ?_) (a' := ?_) q30_36 rfl rfl (any_of HT_.out (by kernel_rfl)) (fun _ _ _ h => h) (Or.inl ⟨by rfl, ?_⟩) ?_ ?_
          rotate_left
          ·
           intro w'
           go_simp
           with_reducible rfl
          rotate_left
          ·
           simp only [Act.put, List.setIfInBounds_toArray, List.set_cons_zero, List.set_cons_succ, i64_w, i32_w]
           rfl
          refine take_ (i := 1) (N := some 20) (v := ?_) (a' := ?_) q30_37 rfl rfl (take_ofW HT_.out HW_.out (by kernel_rfl)) (fun _ _ _ h => h) (Or.inl ⟨by rfl, ?_⟩) hHeld ?_ ?_
          rotate_left
          ·
           rintro w' ⟨s0, s1, s2, s3, s4, s5, s6, s7, s8, s9, s10, s11, s12, s13, s14, s15, s16, s17, s18, s19, s20, s21, s22, s23, s24, s25, s26⟩
           go_simp
           with_reducible rfl
          rotate_left
          ·
           simp only [Act.put, List.setIfInBounds_toArray, List.set_cons_zero, List.set_cons_succ, i64_w, i32_w]
           rfl
          refine take_ (i := 6) (N := some 25) (v := ?_) (a' := ?_) q30_38 rfl rfl (take_ofW HT_.out HW_.out (by kernel_rfl)) (fun _ _ _ h => h) (Or.inl ⟨by rfl, ?_⟩) hHeld ?_ ?_
          rotate_left
          ·
           rintro w' ⟨s0, s1, s2, s3, s4, s5, s6, s7, s8, s9, s10, s11, s12, s13, s14, s15, s16, s17, s18, s19, s20, s21, s22, s23, s24, s25, s26⟩
           go_simp
           with_reducible rfl
          rotate_left
          ·
           simp only [Act.put, List.setIfInBounds_toArray, List.set_cons_zero, List.set_cons_succ, i64_w, i32_w]
           rfl
          refine one_ (i := 7) (N := some 26) q30_39 rfl rfl (one_of HT_.out (by kernel_rfl)) (by decide) (fun K hK => ?_)
          refine goes_ Try.func18 (by kernel_rfl) rfl #[.agg #[.int .i64 ((rd_T35 l1 x5_1).f1.f4.f0), .slice A282_13 ((rd_T35 l1 x5_1).f1.f4.f1).length c282_13], .agg #[.int .i64 ((rd_T35 l1 0).f1.f4.f0), .slice A284_13 ((rd_T35 l1 0).f1.f4.f1).length c284_13]] (by rfl) rfl rfl (by (try simp only [List.map_toArray, List.map_cons, List.map_nil]); first | done | rfl | (simp only [List.length_drop, List.length_take]; rfl)) ?_
          with_reducible refine (colloquyref06_Same.calls k1 ((rd_T35 l1 x5_1).f1.f4.f0) _ _ ((rd_T35 l1 x5_1).f1.f4.f1) ((rd_T35 l1 0).f1.f4.f0) _ _ ((rd_T35 l1 0).f1.f4.f1) false _ ?side1 ?side2 ?side3 ?side4 A6.out).mono ?_
          (case side1 => repeat (first | exact (Kd.C_below HR282_13.out HB.out) | (with_reducible refine Kd.C_alloc ?_ _) | (with_reducible refine Kd.C_drewN ?_ _) | (with_reducible refine Kd.C_drew ?_)))
          (case side2 => exact HC282_13.out)
          (case side3 => repeat (first | exact (Kd.C_below HR284_13.out HB.out) | (with_reducible refine Kd.C_alloc ?_ _) | (with_reducible refine Kd.C_drewN ?_ _) | (with_reducible refine Kd.C_drew ?_)))
          (case side4 => exact HC284_13.out)
          rintro e w33 ⟨rfl, hb⟩
          refine ⟨_, rfl, ?_⟩
          have n0_ := Aside0.mk (blk_below (g := gb283) (bk BK283) hb)
          have n1_ := Aside0.mk (below_step (gw_ HB) hb)
          clear BK283
          clear HB
          have BK283 := n0_
          have HB := n1_
          clear n0_ n1_
          (try clear hb)
          (try clear hb2)
          (try clear hk)
          (try clear hi)
          refine hK.out _ _ ⟨(blk_cell BK283.out 0).trans rfl, (blk_cell BK283.out 1).trans rfl, (blk_cell BK283.out 2).trans rfl, (blk_cell BK283.out 3).trans rfl, (blk_cell BK283.out 4).trans rfl, (blk_cell BK283.out 5).trans rfl, (blk_cell BK283.out 6).trans rfl, (blk_cell BK283.out 7).trans rfl, (blk_cell BK283.out 8).trans rfl, (blk_cell BK283.out 9).trans rfl, (blk_cell BK283.out 10).trans rfl, (blk_cell BK283.out 11).trans rfl, (blk_cell BK283.out 12).trans rfl, ((HB.out.cell (World.block_lt_of_cell? w _ hw284_0)).trans hw284_0), ((HB.out.cell (World.block_lt_of_cell? w _ hw284_1)).trans hw284_1), ((HB.out.cell (World.block_lt_of_cell? w _ hw284_2)).trans hw284_2), ((HB.out.cell (World.block_lt_of_cell? w _ hw284_3)).trans hw284_3), ((HB.out.cell (World.block_lt_of_cell? w _ hw284_4)).trans hw284_4), ((HB.out.cell (World.block_lt_of_cell? w _ hw284_5)).trans hw284_5), ((HB.out.cell (World.block_lt_of_cell? w _ hw284_6)).trans hw284_6), ((HB.out.cell (World.block_lt_of_cell? w _ hw284_7)).trans hw284_7), ((HB.out.cell (World.block_lt_of_cell? w _ hw284_8)).trans hw284_8), ((HB.out.cell (World.block_lt_of_cell? w _ hw284_9)).trans hw284_9), ((HB.out.cell (World.block_lt_of_cell? w _ hw284_10)).trans hw284_10), ((HB.out.cell (World.block_lt_of_cell? w _ hw284_11)).trans hw284_11), ((HB.out.cell (World.block_lt_of_cell? w _ hw284_12)).trans hw284_12), ((HB.out.cell (World.block_lt_of_cell? w _ hw284_13)).trans hw284_13)⟩ (fun hHeld => ?_)
          clear hK K
          refine norm_ (a' := ?_) ?_ ?_
          rotate_left
          ·
           show Act.put _ (some 26) _ = _
           simp only [Act.put, List.setIfInBounds_toArray, List.set_cons_zero, List.set_cons_succ, i64_w, i32_w]
           rfl
          refine pure_ (i := 8) (N := some 7) (v := ?_) (a' := ?_) q30_40 rfl rfl (any_of HT_.out (by kernel_rfl)) (fun _ _ _ h => h) (Or.inl ⟨by rfl, ?_⟩) ?_ ?_
          rotate_left
          ·
           intro w'
           go_simp
           with_reducible rfl
          rotate_left
          ·
           simp only [Act.put, List.setIfInBounds_toArray, List.set_cons_zero, List.set_cons_succ, i64_w, i32_w]
           rfl
          refine done_ (done_of HT_.out (by kernel_rfl)) ?_
          try go_wp2
          have n0_ := Aside0.mk (blk_drew BK283.out)
          have n1_ := Aside0.mk (below_drew1 HB.out)
          clear BK283
          clear HB
          have BK283 := n0_
          have HB := n1_
          clear n0_ n1_
          have p286 : 0 ≤ (0 : Int) := (by omega)
          have q286 : 0 < (l1.length : Int) := of_decide_eq_true (by first | (with_reducible assumption) | assumption)
          obtain ⟨ad286, A286_13, c286_13, e286, hx286_0, hx286_1, hx286_2, hx286_3, hx286_4, hx286_5, hx286_6, hx286_7, hx286_8, hx286_9, hx286_10, hx286_11, hx286_12, hx286_13, hl286_13, hi286_13⟩ := at_T35 HR1.out 0 p286 q286
          have hw286_13 := hx286_13
          (try rw [show ((0 : Int)).toNat = 0 from rfl] at hw286_13)
          (try rw [show 0 * 14 = 0 from rfl] at hw286_13)
          (try rw [Addr.add_zero'] at hw286_13)
          have hw286_12 := hx286_12
          (try rw [show ((0 : Int)).toNat = 0 from rfl] at hw286_12)
          (try rw [show 0 * 14 = 0 from rfl] at hw286_12)
          (try rw [Addr.add_zero'] at hw286_12)
          have hw286_11 := hx286_11
          (try rw [show ((0 : Int)).toNat = 0 from rfl] at hw286_11)
          (try rw [show 0 * 14 = 0 from rfl] at hw286_11)
          (try rw [Addr.add_zero'] at hw286_11)
          have hw286_10 := hx286_10
          (try rw [show ((0 : Int)).toNat = 0 from rfl] at hw286_10)
          (try rw [show 0 * 14 = 0 from rfl] at hw286_10)
          (try rw [Addr.add_zero'] at hw286_10)
          have hw286_9 := hx286_9
          (try rw [show ((0 : Int)).toNat = 0 from rfl] at hw286_9)
          (try rw [show 0 * 14 = 0 from rfl] at hw286_9)
          (try rw [Addr.add_zero'] at hw286_9)
          have hw286_8 := hx286_8
          (try rw [show ((0 : Int)).toNat = 0 from rfl] at hw286_8)
          (try rw [show 0 * 14 = 0 from rfl] at hw286_8)
          (try rw [Addr.add_zero'] at hw286_8)
          have hw286_7 := hx286_7
          (try rw [show ((0 : Int)).toNat = 0 from rfl] at hw286_7)
          (try rw [show 0 * 14 = 0 from rfl] at hw286_7)
          (try rw [Addr.add_zero'] at hw286_7)
          have hw286_6 := hx286_6
          (try rw [show ((0 : Int)).toNat = 0 from rfl] at hw286_6)
          (try rw [show 0 * 14 = 0 from rfl] at hw286_6)
          (try rw [Addr.add_zero'] at hw286_6)
          have hw286_5 := hx286_5
          (try rw [show ((0 : Int)).toNat = 0 from rfl] at hw286_5)
          (try rw [show 0 * 14 = 0 from rfl] at hw286_5)
          (try rw [Addr.add_zero'] at hw286_5)
          have hw286_4 := hx286_4
          (try rw [show ((0 : Int)).toNat = 0 from rfl] at hw286_4)
          (try rw [show 0 * 14 = 0 from rfl] at hw286_4)
          (try rw [Addr.add_zero'] at hw286_4)
          have hw286_3 := hx286_3
          (try rw [show ((0 : Int)).toNat = 0 from rfl] at hw286_3)
          (try rw [show 0 * 14 = 0 from rfl] at hw286_3)
          (try rw [Addr.add_zero'] at hw286_3)
          have hw286_2 := hx286_2
          (try rw [show ((0 : Int)).toNat = 0 from rfl] at hw286_2)
          (try rw [show 0 * 14 = 0 from rfl] at hw286_2)
          (try rw [Addr.add_zero'] at hw286_2)
          have hw286_1 := hx286_1
          (try rw [show ((0 : Int)).toNat = 0 from rfl] at hw286_1)
          (try rw [show 0 * 14 = 0 from rfl] at hw286_1)
          (try rw [Addr.add_zero'] at hw286_1)
          have hw286_0 := hx286_0
          (try rw [show ((0 : Int)).toNat = 0 from rfl] at hw286_0)
          (try rw [show 0 * 14 = 0 from rfl] at hw286_0)
          (try rw [Addr.add_zero'] at hw286_0)
          obtain rfl : ad282 = ad286 := (by injection e286)
          have qi286 : (0 < l1.length) = True := eq_true (by omega)
          (try rw [show ((0 : Int)).toNat = 0 from rfl] at hx286_0)
          (try rw [show 0 * 14 = 0 from rfl] at hx286_0)
          (try rw [Addr.add_zero'] at hx286_0)
          (try rw [show ((0 : Int)).toNat = 0 from rfl] at hx286_1)
          (try rw [show 0 * 14 = 0 from rfl] at hx286_1)
          (try rw [Addr.add_zero'] at hx286_1)
          (try rw [show ((0 : Int)).toNat = 0 from rfl] at hx286_2)
          (try rw [show 0 * 14 = 0 from rfl] at hx286_2)
          (try rw [Addr.add_zero'] at hx286_2)
          (try rw [show ((0 : Int)).toNat = 0 from rfl] at hx286_3)
          (try rw [show 0 * 14 = 0 from rfl] at hx286_3)
          (try rw [Addr.add_zero'] at hx286_3)
          (try rw [show ((0 : Int)).toNat = 0 from rfl] at hx286_4)
          (try rw [show 0 * 14 = 0 from rfl] at hx286_4)
          (try rw [Addr.add_zero'] at hx286_4)
          (try rw [show ((0 : Int)).toNat = 0 from rfl] at hx286_5)
          (try rw [show 0 * 14 = 0 from rfl] at hx286_5)
          (try rw [Addr.add_zero'] at hx286_5)
          (try rw [show ((0 : Int)).toNat = 0 from rfl] at hx286_6)
          (try rw [show 0 * 14 = 0 from rfl] at hx286_6)
          (try rw [Addr.add_zero'] at hx286_6)
          (try rw [show ((0 : Int)).toNat = 0 from rfl] at hx286_7)
          (try rw [show 0 * 14 = 0 from rfl] at hx286_7)
          (try rw [Addr.add_zero'] at hx286_7)
          (try rw [show ((0 : Int)).toNat = 0 from rfl] at hx286_8)
          (try rw [show 0 * 14 = 0 from rfl] at hx286_8)
          (try rw [Addr.add_zero'] at hx286_8)
          (try rw [show ((0 : Int)).toNat = 0 from rfl] at hx286_9)
          (try rw [show 0 * 14 = 0 from rfl] at hx286_9)
          (try rw [Addr.add_zero'] at hx286_9)
          (try rw [show ((0 : Int)).toNat = 0 from rfl] at hx286_10)
          (try rw [show 0 * 14 = 0 from rfl] at hx286_10)
          (try rw [Addr.add_zero'] at hx286_10)
          (try rw [show ((0 : Int)).toNat = 0 from rfl] at hx286_11)
          (try rw [show 0 * 14 = 0 from rfl] at hx286_11)
          (try rw [Addr.add_zero'] at hx286_11)
          (try rw [show ((0 : Int)).toNat = 0 from rfl] at hx286_12)
          (try rw [show 0 * 14 = 0 from rfl] at hx286_12)
          (try rw [Addr.add_zero'] at hx286_12)
          (try rw [show ((0 : Int)).toNat = 0 from rfl] at hx286_13)
          (try rw [show 0 * 14 = 0 from rfl] at hx286_13)
          (try rw [Addr.add_zero'] at hx286_13)
          replace hx286_0 := (HB.out.cell (World.block_lt_of_cell? w _ hx286_0)).trans hx286_0
          replace hx286_1 := (HB.out.cell (World.block_lt_of_cell? w _ hx286_1)).trans hx286_1
          replace hx286_2 := (HB.out.cell (World.block_lt_of_cell? w _ hx286_2)).trans hx286_2
          replace hx286_3 := (HB.out.cell (World.block_lt_of_cell? w _ hx286_3)).trans hx286_3
          replace hx286_4 := (HB.out.cell (World.block_lt_of_cell? w _ hx286_4)).trans hx286_4
          replace hx286_5 := (HB.out.cell (World.block_lt_of_cell? w _ hx286_5)).trans hx286_5
          replace hx286_6 := (HB.out.cell (World.block_lt_of_cell? w _ hx286_6)).trans hx286_6
          replace hx286_7 := (HB.out.cell (World.block_lt_of_cell? w _ hx286_7)).trans hx286_7
          replace hx286_8 := (HB.out.cell (World.block_lt_of_cell? w _ hx286_8)).trans hx286_8
          replace hx286_9 := (HB.out.cell (World.block_lt_of_cell? w _ hx286_9)).trans hx286_9
          replace hx286_10 := (HB.out.cell (World.block_lt_of_cell? w _ hx286_10)).trans hx286_10
          replace hx286_11 := (HB.out.cell (World.block_lt_of_cell? w _ hx286_11)).trans hx286_11
          replace hx286_12 := (HB.out.cell (World.block_lt_of_cell? w _ hx286_12)).trans hx286_12
          replace hx286_13 := (HB.out.cell (World.block_lt_of_cell? w _ hx286_13)).trans hx286_13
          have HR286_13 := Aside0.mk hi286_13
          have HC286_13 := Aside0.mk hl286_13
          clear hi286_13 hl286_13
          replace p286 := eq_true p286
          replace q286 := eq_true q286
          refine start_ (n := 24) (S := fun w' => w'.cell? ⟨gb283, 0, none⟩ = some (.int .i64 ((rd_T35 l1 x5_1).f1.f0)) ∧ w'.cell? ⟨gb283, 1, none⟩ = some (.int .i64 ((rd_T35 l1 x5_1).f1.f1.f0)) ∧ w'.cell? ⟨gb283, 2, none⟩ = some (.int .i64 ((rd_T35 l1 x5_1).f1.f1.f1)) ∧ w'.cell? ⟨gb283, 3, none⟩ = some (.int .i64 ((rd_T35 l1 x5_1).f1.f2.f0)) ∧ w'.cell? ⟨gb283, 4, none⟩ = some (.int .i64 ((rd_T35 l1 x5_1).f1.f2.f1)) ∧ w'.cell? ⟨gb283, 5, none⟩ = some (.int .i64 ((rd_T35 l1 x5_1).f1.f3.f0)) ∧ w'.cell? ⟨gb283, 6, none⟩ = some (.int .i64 ((rd_T35 l1 x5_1).f1.f3.f1)) ∧ w'.cell? ⟨gb283, 7, none⟩ = some (.int .i64 ((rd_T35 l1 x5_1).f1.f3.f2)) ∧ w'.cell? ⟨gb283, 8, none⟩ = some (.int .i64 ((rd_T35 l1 x5_1).f1.f3.f3)) ∧ w'.cell? ⟨gb283, 9, none⟩ = some (.int .i64 ((rd_T35 l1 x5_1).f1.f3.f4)) ∧ w'.cell? ⟨gb283, 10, none⟩ = some (.string ((rd_T35 l1 x5_1).f1.f3.f5)) ∧ w'.cell? ⟨gb283, 11, none⟩ = some (.int .i64 ((rd_T35 l1 x5_1).f1.f4.f0)) ∧ w'.cell? ⟨gb283, 12, none⟩ = some (.slice A282_13 ((rd_T35 l1 x5_1).f1.f4.f1).length c282_13) ∧ w'.cell? ad282 = some (.int .i64 ((rd_T35 l1 0).f0)) ∧ w'.cell? ⟨ad282.block, ad282.off + 1, none⟩ = some (.int .i64 ((rd_T35 l1 0).f1.f0)) ∧ w'.cell? ⟨ad282.block, ad282.off + 2, none⟩ = some (.int .i64 ((rd_T35 l1 0).f1.f1.f0)) ∧ w'.cell? ⟨ad282.block, ad282.off + 3, none⟩ = some (.int .i64 ((rd_T35 l1 0).f1.f1.f1)) ∧ w'.cell? ⟨ad282.block, ad282.off + 4, none⟩ = some (.int .i64 ((rd_T35 l1 0).f1.f2.f0)) ∧ w'.cell? ⟨ad282.block, ad282.off + 5, none⟩ = some (.int .i64 ((rd_T35 l1 0).f1.f2.f1)) ∧ w'.cell? ⟨ad282.block, ad282.off + 6, none⟩ = some (.int .i64 ((rd_T35 l1 0).f1.f3.f0)) ∧ w'.cell? ⟨ad282.block, ad282.off + 7, none⟩ = some (.int .i64 ((rd_T35 l1 0).f1.f3.f1)) ∧ w'.cell? ⟨ad282.block, ad282.off + 8, none⟩ = some (.int .i64 ((rd_T35 l1 0).f1.f3.f2)) ∧ w'.cell? ⟨ad282.block, ad282.off + 9, none⟩ = some (.int .i64 ((rd_T35 l1 0).f1.f3.f3)) ∧ w'.cell? ⟨ad282.block, ad282.off + 10, none⟩ = some (.int .i64 ((rd_T35 l1 0).f1.f3.f4)) ∧ w'.cell? ⟨ad282.block, ad282.off + 11, none⟩ = some (.string ((rd_T35 l1 0).f1.f3.f5)) ∧ w'.cell? ⟨ad282.block, ad282.off + 12, none⟩ = some (.int .i64 ((rd_T35 l1 0).f1.f4.f0)) ∧ w'.cell? ⟨ad282.block, ad282.off + 13, none⟩ = some (.slice A286_13 ((rd_T35 l1 0).f1.f4.f1).length c286_13)) (ds := []) q30_0 (by kernel_rfl) rfl rfl ⟨(blk_cell BK283.out 0).trans rfl, (blk_cell BK283.out 1).trans rfl, (blk_cell BK283.out 2).trans rfl, (blk_cell BK283.out 3).trans rfl, (blk_cell BK283.out 4).trans rfl, (blk_cell BK283.out 5).trans rfl, (blk_cell BK283.out 6).trans rfl, (blk_cell BK283.out 7).trans rfl, (blk_cell BK283.out 8).trans rfl, (blk_cell BK283.out 9).trans rfl, (blk_cell BK283.out 10).trans rfl, (blk_cell BK283.out 11).trans rfl, (blk_cell BK283.out 12).trans rfl, ((HB.out.cell (World.block_lt_of_cell? w _ hw286_0)).trans hw286_0), ((HB.out.cell (World.block_lt_of_cell? w _ hw286_1)).trans hw286_1), ((HB.out.cell (World.block_lt_of_cell? w _ hw286_2)).trans hw286_2), ((HB.out.cell (World.block_lt_of_cell? w _ hw286_3)).trans hw286_3), ((HB.out.cell (World.block_lt_of_cell? w _ hw286_4)).trans hw286_4), ((HB.out.cell (World.block_lt_of_cell? w _ hw286_5)).trans hw286_5), ((HB.out.cell (World.block_lt_of_cell? w _ hw286_6)).trans hw286_6), ((HB.out.cell (World.block_lt_of_cell? w _ hw286_7)).trans hw286_7), ((HB.out.cell (World.block_lt_of_cell? w _ hw286_8)).trans hw286_8), ((HB.out.cell (World.block_lt_of_cell? w _ hw286_9)).trans hw286_9), ((HB.out.cell (World.block_lt_of_cell? w _ hw286_10)).trans hw286_10), ((HB.out.cell (World.block_lt_of_cell? w _ hw286_11)).trans hw286_11), ((HB.out.cell (World.block_lt_of_cell? w _ hw286_12)).trans hw286_12), ((HB.out.cell (World.block_lt_of_cell? w _ hw286_13)).trans hw286_13)⟩ (fun hHeld => ?_); refine with_tabW colloquyref10_first.tab6 colloquyref10_first.bits6 (fun HT_ HW_ => ?_)
          generalize w33.drew = w34 at BK283 HB HR286_13 hx286_0 hx286_1 hx286_10 hx286_11 hx286_12 hx286_13 hx286_2 hx286_3 hx286_4 hx286_5 hx286_6 hx286_7 hx286_8 hx286_9 hHeld ⊢
          refine pure_ (i := 0) (N := some 27) (v := ?_) (a' := ?_) q30_1 rfl rfl (any_of HT_.out (by kernel_rfl)) (fun _ _ _ h => h) (Or.inl ⟨by rfl, ?_⟩) ?_ ?_
          rotate_left
          ·
           intro w'
           go_simp
           with_reducible rfl
          rotate_left
          ·
           simp only [Act.put, List.setIfInBounds_toArray, List.set_cons_zero, List.set_cons_succ, i64_w, i32_w]
           rfl
          refine take_ (i := 1) (N := some 28) (v := ?_) (a' := ?_) q30_2 rfl rfl (take_ofW HT_.out HW_.out (by kernel_rfl)) (fun _ _ _ h => h) (Or.inl ⟨by rfl, ?_⟩) hHeld ?_ ?_
          rotate_left
          ·
           rintro w' ⟨s0, s1, s2, s3, s4, s5, s6, s7, s8, s9, s10, s11, s12, s13, s14, s15, s16, s17, s18, s19, s20, s21, s22, s23, s24, s25, s26⟩
           go_simp
           with_reducible rfl
          rotate_left
          ·
           simp only [Act.put, List.setIfInBounds_toArray, List.set_cons_zero, List.set_cons_succ, i64_w, i32_w]
           rfl
          refine pure_ (i := 2) (N := some 29) (v := ?_) (a' := ?_) q30_3 rfl rfl (any_of HT_.out (by kernel_rfl)) (fun _ _ _ h => h) (Or.inl ⟨by rfl, ?_⟩) ?_ ?_
          rotate_left
          ·
           intro w'
           go_simp
           with_reducible rfl
          rotate_left
          ·
           simp only [Act.put, List.setIfInBounds_toArray, List.set_cons_zero, List.set_cons_succ, i64_w, i32_w]
           rfl
          refine pure_ (i := 3) (N := some 30) (v := ?_) (a' := ?_) q30_4 rfl rfl (any_of HT_.out (by kernel_rfl)) (fun _ _ _ h => h) (Or.inl ⟨by rfl, ?_⟩) ?_ ?_
          rotate_left
          ·
           intro w'
           go_simp
           with_reducible rfl
          rotate_left
          ·
           simp only [Act.put, List.setIfInBounds_toArray, List.set_cons_zero, List.set_cons_succ, i64_w, i32_w]
           rfl
          refine pure_ (i := 4) (N := some 31) (v := ?_) (a' := ?_) q30_5 rfl rfl (any_of HT_.out (by kernel_rfl)) (fun _ _ _ h => h) (Or.inl ⟨by rfl, ?_⟩) ?_ ?_
          rotate_left
          ·
           intro w'
           go_simp
           with_reducible rfl
          rotate_left
          ·
           simp only [Act.put, List.setIfInBounds_toArray, List.set_cons_zero, List.set_cons_succ, i64_w, i32_w]
           rfl
          refine pure_ (i := 6) (N := some 33) (v := ?_) (a' := ?_) q30_6 rfl rfl (any_of HT_.out (by kernel_rfl)) (fun _ _ _ h => h) (Or.inl ⟨by rfl, ?_⟩) ?_ ?_
          rotate_left
          ·
           intro w'
           go_simp
           with_reducible rfl
          rotate_left
          ·
           simp only [Act.put, List.setIfInBounds_toArray, List.set_cons_zero, List.set_cons_succ, i64_w, i32_w]
           rfl
          refine pure_ (i := 7) (N := some 34) (v := ?_) (a' := ?_) q30_8 rfl rfl (any_of HT_.out (by kernel_rfl)) (fun _ _ _ h => h) (Or.inl ⟨by rfl, ?_⟩) ?_ ?_
          rotate_left
          ·
           intro w'
           go_simp
           with_reducible rfl
          rotate_left
          ·
           simp only [Act.put, List.setIfInBounds_toArray, List.set_cons_zero, List.set_cons_succ, i64_w, i32_w]
           rfl
          refine take_ (i := 5) (N := some 32) (v := ?_) (a' := ?_) q30_10 rfl rfl (take_ofW HT_.out HW_.out (by kernel_rfl)) (fun _ _ _ h => h) (Or.inl ⟨by rfl, ?_⟩) hHeld ?_ ?_
          rotate_left
          ·
           rintro w' ⟨s0, s1, s2, s3, s4, s5, s6, s7, s8, s9, s10, s11, s12, s13, s14, s15, s16, s17, s18, s19, s20, s21, s22, s23, s24, s25, s26⟩
           go_simp
           with_reducible rfl
          rotate_left
          ·
           simp only [Act.put, List.setIfInBounds_toArray, List.set_cons_zero, List.set_cons_succ, i64_w, i32_w]
           rfl
          refine pure_ (i := 8) (N := some 35) (v := ?_) (a' := ?_) q30_11 rfl rfl (any_of HT_.out (by kernel_rfl)) (fun _ _ _ h => h) (Or.inl ⟨by rfl, ?_⟩) ?_ ?_
          rotate_left
          ·
           intro w'
           go_simp
           with_reducible rfl
          rotate_left
          ·
           simp only [Act.put, List.setIfInBounds_toArray, List.set_cons_zero, List.set_cons_succ, i64_w, i32_w]
           rfl
          refine pure_ (i := 9) (N := some 36) (v := ?_) (a' := ?_) q30_12 rfl rfl (any_of HT_.out (by kernel_rfl)) (fun _ _ _ h => h) (Or.inl ⟨by rfl, ?_⟩) ?_ ?_
          rotate_left
          ·
           intro w'
           go_simp
           with_reducible rfl
          rotate_left
          ·
           simp only [Act.put, List.setIfInBounds_toArray, List.set_cons_zero, List.set_cons_succ, i64_w, i32_w]
           rfl
          refine pure_ (i := 10) (N := some 37) (v := ?_) (a' := ?_) q30_13 rfl rfl (any_of HT_.out (by kernel_rfl)) (fun _ _ _ h => h) (Or.inl ⟨by rfl, ?_⟩) ?_ ?_
          rotate_left
          ·
           intro w'
           go_simp
           with_reducible rfl
          rotate_left
          ·
           simp only [Act.put, List.setIfInBounds_toArray, List.set_cons_zero, List.set_cons_succ, i64_w, i32_w]
           rfl
          refine pure_ (i := 11) (N := some 38) (v := ?_) (a' := ?_) q30_14 rfl rfl (any_of HT_.out (by kernel_rfl)) (fun _ _ _ h => h) (Or.inl ⟨by rfl, ?_⟩) ?_ ?_
          rotate_left
          ·
           intro w'
           go_simp
           with_reducible rfl
          rotate_left
          ·
           simp only [Act.put, List.setIfInBounds_toArray, List.set_cons_zero, List.set_cons_succ, i64_w, i32_w]
           rfl
          refine pure_ (i := 13) (N := some 40) (v := ?_) (a' := ?_) q30_15 rfl rfl (any_of HT_.out (by kernel_rfl)) (fun _ _ _ h => h) (Or.inl ⟨by rfl, ?_⟩) ?_ ?_
          rotate_left
          ·
           intro w'
           go_simp
           with_reducible rfl
          rotate_left
          ·
           simp only [Act.put, List.setIfInBounds_toArray, List.set_cons_zero, List.set_cons_succ, i64_w, i32_w]
           rfl
          refine pure_ (i := 14) (N := some 41) (v := ?_) (a' := ?_) q30_17 rfl rfl (any_of HT_.out (by kernel_rfl)) (fun _ _ _ h => h) (Or.inl ⟨by rfl, ?_⟩) ?_ ?_
          rotate_left
          ·
           intro w'
           go_simp
           with_reducible rfl
          rotate_left
          ·
           simp only [Act.put, List.setIfInBounds_toArray, List.set_cons_zero, List.set_cons_succ, i64_w, i32_w]
           rfl
          refine pure_ (i := 15) (N := some 42) (v := ?_) (a' := ?_) q30_19 rfl rfl (any_of HT_.out (by kernel_rfl)) (fun _ _ _ h => h) (Or.inl ⟨by rfl, ?_⟩) ?_ ?_
          rotate_left
          ·
           intro w'
           go_simp
           with_reducible rfl
          rotate_left
          ·
           simp only [Act.put, List.setIfInBounds_toArray, List.set_cons_zero, List.set_cons_succ, i64_w, i32_w]
           rfl
          refine pure_ (i := 16) (N := some 43) (v := ?_) (a' := ?_) q30_21 rfl rfl (any_of HT_.out (by kernel_rfl)) (fun _ _ _ h => h) (Or.inl ⟨by rfl, ?_⟩) ?_ ?_
          rotate_left
          ·
           intro w'
           go_simp
           with_reducible rfl
          rotate_left
          ·
           simp only [Act.put, List.setIfInBounds_toArray, List.set_cons_zero, List.set_cons_succ, i64_w, i32_w]
           rfl
          refine take_ (i := 12) (N := some 39) (v := ?_) (a' := ?_) q30_23 rfl rfl (take_ofW HT_.out HW_.out (by kernel_rfl)) (fun _ _ _ h => h) (Or.inl ⟨by rfl, ?_⟩) hHeld ?_ ?_
          rotate_left
          ·
           rintro w' ⟨s0, s1, s2, s3, s4, s5, s6, s7, s8, s9, s10, s11, s12, s13, s14, s15, s16, s17, s18, s19, s20, s21, s22, s23, s24, s25, s26⟩
           go_simp
           with_reducible rfl
          rotate_left
          ·
           simp only [Act.put, List.setIfInBounds_toArray, List.set_cons_zero, List.set_cons_succ, i64_w, i32_w]
           rfl
          refine take_ (i := 17) (N := some 44) (v := ?_) (a' := ?_) q30_24 rfl rfl (take_ofW HT_.out HW_.out (by kernel_rfl)) (fun _ _ _ h => h) (Or.inl ⟨by rfl, ?_⟩) hHeld ?_ ?_
          rotate_left
          ·
           rintro w' ⟨s0, s1, s2, s3, s4, s5, s6, s7, s8, s9, s10, s11, s12, s13, s14, s15, s16, s17, s18, s19, s20, s21, s22, s23, s24, s25, s26⟩
           go_simp
           with_reducible rfl
          rotate_left
          ·
           simp only [Act.put, List.setIfInBounds_toArray, List.set_cons_zero, List.set_cons_succ, i64_w, i32_w]
           rfl
          refine pure_ (i := 18) (N := some 45) (v := ?_) (a' := ?_) q30_25 rfl rfl (any_of HT_.out (by kernel_rfl)) (fun _ _ _ h => h) (Or.inl ⟨by rfl, ?_⟩) ?_ ?_
          rotate_left
          ·
           intro w'
           go_simp
           with_reducible rfl
          rotate_left
          ·
           simp only [Act.put, List.setIfInBounds_toArray, List.set_cons_zero, List.set_cons_succ, i64_w, i32_w]
           rfl
          refine pure_ (i := 19) (N := some 46) (v := ?_) (a' := ?_) q30_26 rfl rfl (any_of HT_.out (by kernel_rfl)) (fun _ _ _ h => h) (Or.inl ⟨by rfl, ?_⟩) ?_ ?_
          rotate_left
          ·
           intro w'
           go_simp
           with_reducible rfl
          rotate_left
          ·
           simp only [Act.put, List.setIfInBounds_toArray, List.set_cons_zero, List.set_cons_succ, i64_w, i32_w]
           rfl
          refine pure_ (i := 20) (N := some 47) (v := ?_) (a' := ?_) q30_27 rfl rfl (any_of HT_.out (by kernel_rfl)) (fun _ _ _ h => h) (Or.inl ⟨by rfl, ?_⟩) ?_ ?_
          rotate_left
          ·
           intro w'
           go_simp
           with_reducible rfl
          rotate_left
          ·
           simp only [Act.put, List.setIfInBounds_toArray, List.set_cons_zero, List.set_cons_succ, i64_w, i32_w]
           rfl
          refine pure_ (i := 21) (N := some 48) (v := ?_) (a' := ?_) q30_28 rfl rfl (any_of HT_.out (by kernel_rfl)) (fun _ _ _ h => h) (Or.inl ⟨by rfl, ?_⟩) ?_ ?_
          rotate_left
          ·
           intro w'
           go_simp
           with_reducible rfl
          rotate_left
          ·
           simp only [Act.put, List.setIfInBounds_toArray, List.set_cons_zero, List.set_cons_succ, i64_w, i32_w]
           rfl
          refine pure_ (i := 22) (N := some 49) (v := ?_) (a' := ?_) q30_29 rfl rfl (any_of HT_.out (by kernel_rfl)) (fun _ _ _ h => h) (Or.inl ⟨by rfl, ?_⟩) ?_ ?_
          rotate_left
          ·
           intro w'
           go_simp
           with_reducible rfl
          rotate_left
          ·
           simp only [Act.put, List.setIfInBounds_toArray, List.set_cons_zero, List.set_cons_succ, i64_w, i32_w]
           rfl
          refine pure_ (i := 23) (N := some 50) (v := ?_) (a' := ?_) q30_30 rfl rfl (any_of HT_.out (by kernel_rfl)) (fun _ _ _ h => h) (Or.inl ⟨by rfl, ?_⟩) ?_ ?_
          rotate_left
          ·
           intro w'
           go_simp
           with_reducible rfl
          rotate_left
          ·
           simp only [Act.put, List.setIfInBounds_toArray, List.set_cons_zero, List.set_cons_succ, i64_w, i32_w]
           rfl
          refine done_ (done_of HT_.out (by kernel_rfl)) ?_
          try go_wp2
          go_ret
          exact ⟨by first | rfl | (simp [errW_none, errW_some] <;> rfl) | (simp [*, errW_none, errW_some] <;> rfl), gw_ HB⟩
      ·
       rw [if_neg c7] at H
       have c7b0 : (((rd_T35 l1 x5_1).f1.f0) == 1) = false := beq_eq_false_iff_ne.mpr c7
       have c7b1 : (((rd_T35 l1 x5_1).f1.f0) != 1) = true := bne_iff_ne.mpr c7
       obtain rfl := Option.some.inj H
       have p282 : 0 ≤ (x5_1 : Int) := of_decide_eq_true (by first | (with_reducible assumption) | assumption)
       have q282 : x5_1 < (l1.length : Int) := of_decide_eq_true (by first | (with_reducible assumption) | assumption)
       obtain ⟨ad282, A282_13, c282_13, e282, hx282_0, hx282_1, hx282_2, hx282_3, hx282_4, hx282_5, hx282_6, hx282_7, hx282_8, hx282_9, hx282_10, hx282_11, hx282_12, hx282_13, hl282_13, hi282_13⟩ := at_T35 HR1.out x5_1 p282 q282
       cases e282
       replace hx282_0 := (HB.out.cell (World.block_lt_of_cell? w _ hx282_0)).trans hx282_0
       replace hx282_1 := (HB.out.cell (World.block_lt_of_cell? w _ hx282_1)).trans hx282_1
       replace hx282_2 := (HB.out.cell (World.block_lt_of_cell? w _ hx282_2)).trans hx282_2
       replace hx282_3 := (HB.out.cell (World.block_lt_of_cell? w _ hx282_3)).trans hx282_3
       replace hx282_4 := (HB.out.cell (World.block_lt_of_cell? w _ hx282_4)).trans hx282_4
       replace hx282_5 := (HB.out.cell (World.block_lt_of_cell? w _ hx282_5)).trans hx282_5
       replace hx282_6 := (HB.out.cell (World.block_lt_of_cell? w _ hx282_6)).trans hx282_6
       replace hx282_7 := (HB.out.cell (World.block_lt_of_cell? w _ hx282_7)).trans hx282_7
       replace hx282_8 := (HB.out.cell (World.block_lt_of_cell? w _ hx282_8)).trans hx282_8
       replace hx282_9 := (HB.out.cell (World.block_lt_of_cell? w _ hx282_9)).trans hx282_9
       replace hx282_10 := (HB.out.cell (World.block_lt_of_cell? w _ hx282_10)).trans hx282_10
       replace hx282_11 := (HB.out.cell (World.block_lt_of_cell? w _ hx282_11)).trans hx282_11
       replace hx282_12 := (HB.out.cell (World.block_lt_of_cell? w _ hx282_12)).trans hx282_12
       replace hx282_13 := (HB.out.cell (World.block_lt_of_cell? w _ hx282_13)).trans hx282_13
       have HR282_13 := Aside0.mk hi282_13
       have HC282_13 := Aside0.mk hl282_13
       clear hi282_13 hl282_13
       replace p282 := eq_true p282
       replace q282 := eq_true q282
       try go_wp2_with (first | ((with_reducible refine gate_dst (N := 6) rfl ?_); refine box_event ?hg (N := 6) ?hd (cs := #[.int .i64 0, .int .i64 0, .int .i64 0, .int .i64 0, .int .i64 0, .int .i64 0, .int .i64 0, .int .i64 0, .int .i64 0, .int .i64 0, .string (⟨#[]⟩ : ByteArray), .int .i64 0, .slice none 0 0]) (t := 33) ?hr ?_; (case hd => rfl); (case hg => rfl); (case hr => first | (go_simp; done) | (go_simp; rfl)); intro gb283 hg w35 hbox hb; have s_ := step_size_ (gw_ HB) hb hg; have n0_ := Aside0.mk s_.1; have n1_ := Aside0.mk (hbox); have n2_ := Aside0.mk s_.2; clear s_; have n3_ := n2_; clear HB; have HB := n0_; have BK283 := n1_; have GW283 := n2_; have GE283 := n3_; clear n0_ n1_ n2_ n3_; clear hb hbox hg; obtain ⟨hcz36_0, hcz36_1, hcz36_2, hcz36_3, hcz36_4, hcz36_5, hcz36_6, hcz36_7, hcz36_8, hcz36_9, hcz36_10, hcz36_11, hcz36_12⟩ := blk_cells13 BK283.out; have hfz36_0 := blk_frozen BK283.out 0; have hfz36_1 := blk_frozen BK283.out 1; have hfz36_2 := blk_frozen BK283.out 2; have hfz36_3 := blk_frozen BK283.out 3; have hfz36_4 := blk_frozen BK283.out 4; have hfz36_5 := blk_frozen BK283.out 5; have hfz36_6 := blk_frozen BK283.out 6; have hfz36_7 := blk_frozen BK283.out 7; have hfz36_8 := blk_frozen BK283.out 8; have hfz36_9 := blk_frozen BK283.out 9; have hfz36_10 := blk_frozen BK283.out 10; have hfz36_11 := blk_frozen BK283.out 11; have hfz36_12 := blk_frozen BK283.out 12))
       have n0_ : Aside0 ((((((((((((((w35.setCell ⟨gb283, 0, none⟩ (.int .i64 ((rd_T35 l1 x5_1).f1.f0))).setCell ⟨gb283, 1, none⟩ (.int .i64 ((rd_T35 l1 x5_1).f1.f1.f0))).setCell ⟨gb283, 2, none⟩ (.int .i64 ((rd_T35 l1 x5_1).f1.f1.f1))).setCell ⟨gb283, 3, none⟩ (.int .i64 ((rd_T35 l1 x5_1).f1.f2.f0))).setCell ⟨gb283, 4, none⟩ (.int .i64 ((rd_T35 l1 x5_1).f1.f2.f1))).setCell ⟨gb283, 5, none⟩ (.int .i64 ((rd_T35 l1 x5_1).f1.f3.f0))).setCell ⟨gb283, 6, none⟩ (.int .i64 ((rd_T35 l1 x5_1).f1.f3.f1))).setCell ⟨gb283, 7, none⟩ (.int .i64 ((rd_T35 l1 x5_1).f1.f3.f2))).setCell ⟨gb283, 8, none⟩ (.int .i64 ((rd_T35 l1 x5_1).f1.f3.f3))).setCell ⟨gb283, 9, none⟩ (.int .i64 ((rd_T35 l1 x5_1).f1.f3.f4))).setCell ⟨gb283, 10, none⟩ (.string ((rd_T35 l1 x5_1).f1.f3.f5))).setCell ⟨gb283, 11, none⟩ (.int .i64 ((rd_T35 l1 x5_1).f1.f4.f0))).setCell ⟨gb283, 12, none⟩ (.slice A282_13 ((rd_T35 l1 x5_1).f1.f4.f1).length c282_13)).heap[gb283]? = some (.cells #[.int .i64 ((rd_T35 l1 x5_1).f1.f0), .int .i64 ((rd_T35 l1 x5_1).f1.f1.f0), .int .i64 ((rd_T35 l1 x5_1).f1.f1.f1), .int .i64 ((rd_T35 l1 x5_1).f1.f2.f0), .int .i64 ((rd_T35 l1 x5_1).f1.f2.f1), .int .i64 ((rd_T35 l1 x5_1).f1.f3.f0), .int .i64 ((rd_T35 l1 x5_1).f1.f3.f1), .int .i64 ((rd_T35 l1 x5_1).f1.f3.f2), .int .i64 ((rd_T35 l1 x5_1).f1.f3.f3), .int .i64 ((rd_T35 l1 x5_1).f1.f3.f4), .string ((rd_T35 l1 x5_1).f1.f3.f5), .int .i64 ((rd_T35 l1 x5_1).f1.f4.f0), .slice A282_13 ((rd_T35 l1 x5_1).f1.f4.f1).length c282_13] 33 (0, 0))) := ⟨by (with_reducible repeat (first | refine blk_drewN ?_ _ | refine blk_drew ?_ | refine blk_alloc ?_ _)); refine blk_put13 (cs := #[.int .i64 0, .int .i64 0, .int .i64 0, .int .i64 0, .int .i64 0, .int .i64 0, .int .i64 0, .int .i64 0, .int .i64 0, .int .i64 0, .string (⟨#[]⟩ : ByteArray), .int .i64 0, .slice none 0 0]) ?_ rfl; (with_reducible repeat (first | refine blk_drewN ?_ _ | refine blk_drew ?_ | refine blk_alloc ?_ _)); exact BK283.out⟩
       have n1_ : Aside0 (Below w.heap.size w (((((((((((((w35.setCell ⟨gb283, 0, none⟩ (.int .i64 ((rd_T35 l1 x5_1).f1.f0))).setCell ⟨gb283, 1, none⟩ (.int .i64 ((rd_T35 l1 x5_1).f1.f1.f0))).setCell ⟨gb283, 2, none⟩ (.int .i64 ((rd_T35 l1 x5_1).f1.f1.f1))).setCell ⟨gb283, 3, none⟩ (.int .i64 ((rd_T35 l1 x5_1).f1.f2.f0))).setCell ⟨gb283, 4, none⟩ (.int .i64 ((rd_T35 l1 x5_1).f1.f2.f1))).setCell ⟨gb283, 5, none⟩ (.int .i64 ((rd_T35 l1 x5_1).f1.f3.f0))).setCell ⟨gb283, 6, none⟩ (.int .i64 ((rd_T35 l1 x5_1).f1.f3.f1))).setCell ⟨gb283, 7, none⟩ (.int .i64 ((rd_T35 l1 x5_1).f1.f3.f2))).setCell ⟨gb283, 8, none⟩ (.int .i64 ((rd_T35 l1 x5_1).f1.f3.f3))).setCell ⟨gb283, 9, none⟩ (.int .i64 ((rd_T35 l1 x5_1).f1.f3.f4))).setCell ⟨gb283, 10, none⟩ (.string ((rd_T35 l1 x5_1).f1.f3.f5))).setCell ⟨gb283, 11, none⟩ (.int .i64 ((rd_T35 l1 x5_1).f1.f4.f0))).setCell ⟨gb283, 12, none⟩ (.slice A282_13 ((rd_T35 l1 x5_1).f1.f4.f1).length c282_13))) := ⟨gw_ HB⟩
       (try clear BK283)
       (try clear HB)
       generalize (((((((((((((w35.setCell ⟨gb283, 0, none⟩ (.int .i64 ((rd_T35 l1 x5_1).f1.f0))).setCell ⟨gb283, 1, none⟩ (.int .i64 ((rd_T35 l1 x5_1).f1.f1.f0))).setCell ⟨gb283, 2, none⟩ (.int .i64 ((rd_T35 l1 x5_1).f1.f1.f1))).setCell ⟨gb283, 3, none⟩ (.int .i64 ((rd_T35 l1 x5_1).f1.f2.f0))).setCell ⟨gb283, 4, none⟩ (.int .i64 ((rd_T35 l1 x5_1).f1.f2.f1))).setCell ⟨gb283, 5, none⟩ (.int .i64 ((rd_T35 l1 x5_1).f1.f3.f0))).setCell ⟨gb283, 6, none⟩ (.int .i64 ((rd_T35 l1 x5_1).f1.f3.f1))).setCell ⟨gb283, 7, none⟩ (.int .i64 ((rd_T35 l1 x5_1).f1.f3.f2))).setCell ⟨gb283, 8, none⟩ (.int .i64 ((rd_T35 l1 x5_1).f1.f3.f3))).setCell ⟨gb283, 9, none⟩ (.int .i64 ((rd_T35 l1 x5_1).f1.f3.f4))).setCell ⟨gb283, 10, none⟩ (.string ((rd_T35 l1 x5_1).f1.f3.f5))).setCell ⟨gb283, 11, none⟩ (.int .i64 ((rd_T35 l1 x5_1).f1.f4.f0))).setCell ⟨gb283, 12, none⟩ (.slice A282_13 ((rd_T35 l1 x5_1).f1.f4.f1).length c282_13)) = w37 at n0_ n1_ ⊢
       have BK283 := n0_
       have HB := n1_
       clear n0_ n1_
       have n0_ := Aside0.mk (blk_drew BK283.out)
       have n1_ := Aside0.mk (below_drew1 HB.out)
       clear BK283
       clear HB
       have BK283 := n0_
       have HB := n1_
       clear n0_ n1_
       have p284 : 0 ≤ (0 : Int) := (by omega)
       have q284 : 0 < (l1.length : Int) := of_decide_eq_true (by first | (with_reducible assumption) | assumption)
       obtain ⟨ad284, A284_13, c284_13, e284, hx284_0, hx284_1, hx284_2, hx284_3, hx284_4, hx284_5, hx284_6, hx284_7, hx284_8, hx284_9, hx284_10, hx284_11, hx284_12, hx284_13, hl284_13, hi284_13⟩ := at_T35 HR1.out 0 p284 q284
       have hw284_13 := hx284_13
       (try rw [show ((0 : Int)).toNat = 0 from rfl] at hw284_13)
       (try rw [show 0 * 14 = 0 from rfl] at hw284_13)
       (try rw [Addr.add_zero'] at hw284_13)
       have hw284_12 := hx284_12
       (try rw [show ((0 : Int)).toNat = 0 from rfl] at hw284_12)
       (try rw [show 0 * 14 = 0 from rfl] at hw284_12)
       (try rw [Addr.add_zero'] at hw284_12)
       have hw284_11 := hx284_11
       (try rw [show ((0 : Int)).toNat = 0 from rfl] at hw284_11)
       (try rw [show 0 * 14 = 0 from rfl] at hw284_11)
       (try rw [Addr.add_zero'] at hw284_11)
       have hw284_10 := hx284_10
       (try rw [show ((0 : Int)).toNat = 0 from rfl] at hw284_10)
       (try rw [show 0 * 14 = 0 from rfl] at hw284_10)
       (try rw [Addr.add_zero'] at hw284_10)
       have hw284_9 := hx284_9
       (try rw [show ((0 : Int)).toNat = 0 from rfl] at hw284_9)
       (try rw [show 0 * 14 = 0 from rfl] at hw284_9)
       (try rw [Addr.add_zero'] at hw284_9)
       have hw284_8 := hx284_8
       (try rw [show ((0 : Int)).toNat = 0 from rfl] at hw284_8)
       (try rw [show 0 * 14 = 0 from rfl] at hw284_8)
       (try rw [Addr.add_zero'] at hw284_8)
       have hw284_7 := hx284_7
       (try rw [show ((0 : Int)).toNat = 0 from rfl] at hw284_7)
       (try rw [show 0 * 14 = 0 from rfl] at hw284_7)
       (try rw [Addr.add_zero'] at hw284_7)
       have hw284_6 := hx284_6
       (try rw [show ((0 : Int)).toNat = 0 from rfl] at hw284_6)
       (try rw [show 0 * 14 = 0 from rfl] at hw284_6)
       (try rw [Addr.add_zero'] at hw284_6)
       have hw284_5 := hx284_5
       (try rw [show ((0 : Int)).toNat = 0 from rfl] at hw284_5)
       (try rw [show 0 * 14 = 0 from rfl] at hw284_5)
       (try rw [Addr.add_zero'] at hw284_5)
       have hw284_4 := hx284_4
       (try rw [show ((0 : Int)).toNat = 0 from rfl] at hw284_4)
       (try rw [show 0 * 14 = 0 from rfl] at hw284_4)
       (try rw [Addr.add_zero'] at hw284_4)
       have hw284_3 := hx284_3
       (try rw [show ((0 : Int)).toNat = 0 from rfl] at hw284_3)
       (try rw [show 0 * 14 = 0 from rfl] at hw284_3)
       (try rw [Addr.add_zero'] at hw284_3)
       have hw284_2 := hx284_2
       (try rw [show ((0 : Int)).toNat = 0 from rfl] at hw284_2)
       (try rw [show 0 * 14 = 0 from rfl] at hw284_2)
       (try rw [Addr.add_zero'] at hw284_2)
       have hw284_1 := hx284_1
       (try rw [show ((0 : Int)).toNat = 0 from rfl] at hw284_1)
       (try rw [show 0 * 14 = 0 from rfl] at hw284_1)
       (try rw [Addr.add_zero'] at hw284_1)
       have hw284_0 := hx284_0
       (try rw [show ((0 : Int)).toNat = 0 from rfl] at hw284_0)
       (try rw [show 0 * 14 = 0 from rfl] at hw284_0)
       (try rw [Addr.add_zero'] at hw284_0)
       obtain rfl : ad282 = ad284 := (by injection e284)
       have qi284 : (0 < l1.length) = True := eq_true (by omega)
       (try rw [show ((0 : Int)).toNat = 0 from rfl] at hx284_0)
       (try rw [show 0 * 14 = 0 from rfl] at hx284_0)
       (try rw [Addr.add_zero'] at hx284_0)
       (try rw [show ((0 : Int)).toNat = 0 from rfl] at hx284_1)
       (try rw [show 0 * 14 = 0 from rfl] at hx284_1)
       (try rw [Addr.add_zero'] at hx284_1)
       (try rw [show ((0 : Int)).toNat = 0 from rfl] at hx284_2)
       (try rw [show 0 * 14 = 0 from rfl] at hx284_2)
       (try rw [Addr.add_zero'] at hx284_2)
       (try rw [show ((0 : Int)).toNat = 0 from rfl] at hx284_3)
       (try rw [show 0 * 14 = 0 from rfl] at hx284_3)
       (try rw [Addr.add_zero'] at hx284_3)
       (try rw [show ((0 : Int)).toNat = 0 from rfl] at hx284_4)
       (try rw [show 0 * 14 = 0 from rfl] at hx284_4)
       (try rw [Addr.add_zero'] at hx284_4)
       (try rw [show ((0 : Int)).toNat = 0 from rfl] at hx284_5)
       (try rw [show 0 * 14 = 0 from rfl] at hx284_5)
       (try rw [Addr.add_zero'] at hx284_5)
       (try rw [show ((0 : Int)).toNat = 0 from rfl] at hx284_6)
       (try rw [show 0 * 14 = 0 from rfl] at hx284_6)
       (try rw [Addr.add_zero'] at hx284_6)
       (try rw [show ((0 : Int)).toNat = 0 from rfl] at hx284_7)
       (try rw [show 0 * 14 = 0 from rfl] at hx284_7)
       (try rw [Addr.add_zero'] at hx284_7)
       (try rw [show ((0 : Int)).toNat = 0 from rfl] at hx284_8)
       (try rw [show 0 * 14 = 0 from rfl] at hx284_8)
       (try rw [Addr.add_zero'] at hx284_8)
       (try rw [show ((0 : Int)).toNat = 0 from rfl] at hx284_9)
       (try rw [show 0 * 14 = 0 from rfl] at hx284_9)
       (try rw [Addr.add_zero'] at hx284_9)
       (try rw [show ((0 : Int)).toNat = 0 from rfl] at hx284_10)
       (try rw [show 0 * 14 = 0 from rfl] at hx284_10)
       (try rw [Addr.add_zero'] at hx284_10)
       (try rw [show ((0 : Int)).toNat = 0 from rfl] at hx284_11)
       (try rw [show 0 * 14 = 0 from rfl] at hx284_11)
       (try rw [Addr.add_zero'] at hx284_11)
       (try rw [show ((0 : Int)).toNat = 0 from rfl] at hx284_12)
       (try rw [show 0 * 14 = 0 from rfl] at hx284_12)
       (try rw [Addr.add_zero'] at hx284_12)
       (try rw [show ((0 : Int)).toNat = 0 from rfl] at hx284_13)
       (try rw [show 0 * 14 = 0 from rfl] at hx284_13)
       (try rw [Addr.add_zero'] at hx284_13)
       replace hx284_0 := (HB.out.cell (World.block_lt_of_cell? w _ hx284_0)).trans hx284_0
       replace hx284_1 := (HB.out.cell (World.block_lt_of_cell? w _ hx284_1)).trans hx284_1
       replace hx284_2 := (HB.out.cell (World.block_lt_of_cell? w _ hx284_2)).trans hx284_2
       replace hx284_3 := (HB.out.cell (World.block_lt_of_cell? w _ hx284_3)).trans hx284_3
       replace hx284_4 := (HB.out.cell (World.block_lt_of_cell? w _ hx284_4)).trans hx284_4
       replace hx284_5 := (HB.out.cell (World.block_lt_of_cell? w _ hx284_5)).trans hx284_5
       replace hx284_6 := (HB.out.cell (World.block_lt_of_cell? w _ hx284_6)).trans hx284_6
       replace hx284_7 := (HB.out.cell (World.block_lt_of_cell? w _ hx284_7)).trans hx284_7
       replace hx284_8 := (HB.out.cell (World.block_lt_of_cell? w _ hx284_8)).trans hx284_8
       replace hx284_9 := (HB.out.cell (World.block_lt_of_cell? w _ hx284_9)).trans hx284_9
       replace hx284_10 := (HB.out.cell (World.block_lt_of_cell? w _ hx284_10)).trans hx284_10
       replace hx284_11 := (HB.out.cell (World.block_lt_of_cell? w _ hx284_11)).trans hx284_11
       replace hx284_12 := (HB.out.cell (World.block_lt_of_cell? w _ hx284_12)).trans hx284_12
       replace hx284_13 := (HB.out.cell (World.block_lt_of_cell? w _ hx284_13)).trans hx284_13
       have HR284_13 := Aside0.mk hi284_13
       have HC284_13 := Aside0.mk hl284_13
       clear hi284_13 hl284_13
       replace p284 := eq_true p284
       replace q284 := eq_true q284
       refine start_ (n := 9) (S := fun w' => w'.cell? ⟨gb283, 0, none⟩ = some (.int .i64 ((rd_T35 l1 x5_1).f1.f0)) ∧ w'.cell? ⟨gb283, 1, none⟩ = some (.int .i64 ((rd_T35 l1 x5_1).f1.f1.f0)) ∧ w'.cell? ⟨gb283, 2, none⟩ = some (.int .i64 ((rd_T35 l1 x5_1).f1.f1.f1)) ∧ w'.cell? ⟨gb283, 3, none⟩ = some (.int .i64 ((rd_T35 l1 x5_1).f1.f2.f0)) ∧ w'.cell? ⟨gb283, 4, none⟩ = some (.int .i64 ((rd_T35 l1 x5_1).f1.f2.f1)) ∧ w'.cell? ⟨gb283, 5, none⟩ = some (.int .i64 ((rd_T35 l1 x5_1).f1.f3.f0)) ∧ w'.cell? ⟨gb283, 6, none⟩ = some (.int .i64 ((rd_T35 l1 x5_1).f1.f3.f1)) ∧ w'.cell? ⟨gb283, 7, none⟩ = some (.int .i64 ((rd_T35 l1 x5_1).f1.f3.f2)) ∧ w'.cell? ⟨gb283, 8, none⟩ = some (.int .i64 ((rd_T35 l1 x5_1).f1.f3.f3)) ∧ w'.cell? ⟨gb283, 9, none⟩ = some (.int .i64 ((rd_T35 l1 x5_1).f1.f3.f4)) ∧ w'.cell? ⟨gb283, 10, none⟩ = some (.string ((rd_T35 l1 x5_1).f1.f3.f5)) ∧ w'.cell? ⟨gb283, 11, none⟩ = some (.int .i64 ((rd_T35 l1 x5_1).f1.f4.f0)) ∧ w'.cell? ⟨gb283, 12, none⟩ = some (.slice A282_13 ((rd_T35 l1 x5_1).f1.f4.f1).length c282_13) ∧ w'.cell? ad282 = some (.int .i64 ((rd_T35 l1 0).f0)) ∧ w'.cell? ⟨ad282.block, ad282.off + 1, none⟩ = some (.int .i64 ((rd_T35 l1 0).f1.f0)) ∧ w'.cell? ⟨ad282.block, ad282.off + 2, none⟩ = some (.int .i64 ((rd_T35 l1 0).f1.f1.f0)) ∧ w'.cell? ⟨ad282.block, ad282.off + 3, none⟩ = some (.int .i64 ((rd_T35 l1 0).f1.f1.f1)) ∧ w'.cell? ⟨ad282.block, ad282.off + 4, none⟩ = some (.int .i64 ((rd_T35 l1 0).f1.f2.f0)) ∧ w'.cell? ⟨ad282.block, ad282.off + 5, none⟩ = some (.int .i64 ((rd_T35 l1 0).f1.f2.f1)) ∧ w'.cell? ⟨ad282.block, ad282.off + 6, none⟩ = some (.int .i64 ((rd_T35 l1 0).f1.f3.f0)) ∧ w'.cell? ⟨ad282.block, ad282.off + 7, none⟩ = some (.int .i64 ((rd_T35 l1 0).f1.f3.f1)) ∧ w'.cell? ⟨ad282.block, ad282.off + 8, none⟩ = some (.int .i64 ((rd_T35 l1 0).f1.f3.f2)) ∧ w'.cell? ⟨ad282.block, ad282.off + 9, none⟩ = some (.int .i64 ((rd_T35 l1 0).f1.f3.f3)) ∧ w'.cell? ⟨ad282.block, ad282.off + 10, none⟩ = some (.int .i64 ((rd_T35 l1 0).f1.f3.f4)) ∧ w'.cell? ⟨ad282.block, ad282.off + 11, none⟩ = some (.string ((rd_T35 l1 0).f1.f3.f5)) ∧ w'.cell? ⟨ad282.block, ad282.off + 12, none⟩ = some (.int .i64 ((rd_T35 l1 0).f1.f4.f0)) ∧ w'.cell? ⟨ad282.block, ad282.off + 13, none⟩ = some (.slice A284_13 ((rd_T35 l1 0).f1.f4.f1).length c284_13)) (ds := []) q30_31 (by kernel_rfl) rfl rfl ⟨(blk_cell BK283.out 0).trans rfl, (blk_cell BK283.out 1).trans rfl, (blk_cell BK283.out 2).trans rfl, (blk_cell BK283.out 3).trans rfl, (blk_cell BK283.out 4).trans rfl, (blk_cell BK283.out 5).trans rfl, (blk_cell BK283.out 6).trans rfl, (blk_cell BK283.out 7).trans rfl, (blk_cell BK283.out 8).trans rfl, (blk_cell BK283.out 9).trans rfl, (blk_cell BK283.out 10).trans rfl, (blk_cell BK283.out 11).trans rfl, (blk_cell BK283.out 12).trans rfl, ((HB.out.cell (World.block_lt_of_cell? w _ hw284_0)).trans hw284_0), ((HB.out.cell (World.block_lt_of_cell? w _ hw284_1)).trans hw284_1), ((HB.out.cell (World.block_lt_of_cell? w _ hw284_2)).trans hw284_2), ((HB.out.cell (World.block_lt_of_cell? w _ hw284_3)).trans hw284_3), ((HB.out.cell (World.block_lt_of_cell? w _ hw284_4)).trans hw284_4), ((HB.out.cell (World.block_lt_of_cell? w _ hw284_5)).trans hw284_5), ((HB.out.cell (World.block_lt_of_cell? w _ hw284_6)).trans hw284_6), ((HB.out.cell (World.block_lt_of_cell? w _ hw284_7)).trans hw284_7), ((HB.out.cell (World.block_lt_of_cell? w _ hw284_8)).trans hw284_8), ((HB.out.cell (World.block_lt_of_cell? w _ hw284_9)).trans hw284_9), ((HB.out.cell (World.block_lt_of_cell? w _ hw284_10)).trans hw284_10), ((HB.out.cell (World.block_lt_of_cell? w _ hw284_11)).trans hw284_11), ((HB.out.cell (World.block_lt_of_cell? w _ hw284_12)).trans hw284_12), ((HB.out.cell (World.block_lt_of_cell? w _ hw284_13)).trans hw284_13)⟩ (fun hHeld => ?_); refine with_tabW colloquyref10_first.tab5 colloquyref10_first.bits5 (fun HT_ HW_ => ?_)
       generalize w37.drew = w38 at BK283 HB HR284_13 hx284_0 hx284_1 hx284_10 hx284_11 hx284_12 hx284_13 hx284_2 hx284_3 hx284_4 hx284_5 hx284_6 hx284_7 hx284_8 hx284_9 hHeld ⊢
       refine pure_ (i := 0) (N := some 19) (v := ?_) (a' := ?_) q30_32 rfl rfl (any_of HT_.out (by kernel_rfl)) (fun _ _ _ h => h) (Or.inl ⟨by rfl, ?_⟩) ?_ ?_
       rotate_left
       ·
        intro w'
        go_simp
        with_reducible rfl
       rotate_left
       ·
        simp only [Act.put, List.setIfInBounds_toArray, List.set_cons_zero, List.set_cons_succ, i64_w, i32_w]
        rfl
       refine pure_ (i := 2) (N := some 21) (v := ?_) (a' := ?_) q30_33 rfl rfl (any_of HT_.out (by kernel_rfl)) (fun _ _ _ h => h) (Or.inl ⟨by rfl, ?_⟩) ?_ ?_
       rotate_left
       ·
        intro w'
        go_simp
        with_reducible rfl
       rotate_left
       ·
        simp only [Act.put, List.setIfInBounds_toArray, List.set_cons_zero, List.set_cons_succ, i64_w, i32_w]
        rfl
       refine pure_ (i := 3) (N := some 22) (v := ?_) (a' := ?_) q30_34 rfl rfl (any_of HT_.out (by kernel_rfl)) (fun _ _ _ h => h) (Or.inl ⟨by rfl, ?_⟩) ?_ ?_
       rotate_left
       ·
        intro w'
        go_simp
        with_reducible rfl
       rotate_left
       ·
        simp only [Act.put, List.setIfInBounds_toArray, List.set_cons_zero, List.set_cons_succ, i64_w, i32_w]
        rfl
       refine pure_ (i := 4) (N := some 23) (v := ?_) (a' := ?_) q30_35 rfl rfl (any_of HT_.out (by kernel_rfl)) (fun _ _ _ h => h) (Or.inl ⟨by rfl, ?_⟩) ?_ ?_
       rotate_left
       ·
        intro w'
        go_simp
        with_reducible rfl
       rotate_left
       ·
        simp only [Act.put, List.setIfInBounds_toArray, List.set_cons_zero, List.set_cons_succ, i64_w, i32_w]
        rfl
       refine pure_ (i := 5) (N := some 24) (v := ?_) (a' := ?_) q30_36 rfl rfl (any_of HT_.out (by kernel_rfl)) (fun _ _ _ h => h) (Or.inl ⟨by rfl, ?_⟩) ?_ ?_
       rotate_left
       ·
        intro w'
        go_simp
        with_reducible rfl
       rotate_left
       ·
        simp only [Act.put, List.setIfInBounds_toArray, List.set_cons_zero, List.set_cons_succ, i64_w, i32_w]
        rfl
       refine take_ (i := 1) (N := some 20) (v := ?_) (a' := ?_) q30_37 rfl rfl (take_ofW HT_.out HW_.out (by kernel_rfl)) (fun _ _ _ h => h) (Or.inl ⟨by rfl, ?_⟩) hHeld ?_ ?_
       rotate_left
       ·
        rintro w' ⟨s0, s1, s2, s3, s4, s5, s6, s7, s8, s9, s10, s11, s12, s13, s14, s15, s16, s17, s18, s19, s20, s21, s22, s23, s24, s25, s26⟩
        go_simp
        with_reducible rfl
       rotate_left
       ·
        simp only [Act.put, List.setIfInBounds_toArray, List.set_cons_zero, List.set_cons_succ, i64_w, i32_w]
        rfl
       refine take_ (i := 6) (N := some 25) (v := ?_) (a' := ?_) q30_38 rfl rfl (take_ofW HT_.out HW_.out (by kernel_rfl)) (fun _ _ _ h => h) (Or.inl ⟨by rfl, ?_⟩) hHeld ?_ ?_
       rotate_left
       ·
        rintro w' ⟨s0, s1, s2, s3, s4, s5, s6, s7, s8, s9, s10, s11, s12, s13, s14, s15, s16, s17, s18, s19, s20, s21, s22, s23, s24, s25, s26⟩
        go_simp
        with_reducible rfl
       rotate_left
       ·
        simp only [Act.put, List.setIfInBounds_toArray, List.set_cons_zero, List.set_cons_succ, i64_w, i32_w]
        rfl
       refine one_ (i := 7) (N := some 26) q30_39 rfl rfl (one_of HT_.out (by kernel_rfl)) (by decide) (fun K hK => ?_)
       refine goes_ Try.func18 (by kernel_rfl) rfl #[.agg #[.int .i64 ((rd_T35 l1 x5_1).f1.f4.f0), .slice A282_13 ((rd_T35 l1 x5_1).f1.f4.f1).length c282_13], .agg #[.int .i64 ((rd_T35 l1 0).f1.f4.f0), .slice A284_13 ((rd_T35 l1 0).f1.f4.f1).length c284_13]] (by rfl) rfl rfl (by (try simp only [List.map_toArray, List.map_cons, List.map_nil]); first | done | rfl | (simp only [List.length_drop, List.length_take]; rfl)) ?_
       with_reducible refine (colloquyref06_Same.calls k1 ((rd_T35 l1 x5_1).f1.f4.f0) _ _ ((rd_T35 l1 x5_1).f1.f4.f1) ((rd_T35 l1 0).f1.f4.f0) _ _ ((rd_T35 l1 0).f1.f4.f1) t285 _ ?side1 ?side2 ?side3 ?side4 A6.out).mono ?_
       (case side1 => repeat (first | exact (Kd.C_below HR282_13.out HB.out) | (with_reducible refine Kd.C_alloc ?_ _) | (with_reducible refine Kd.C_drewN ?_ _) | (with_reducible refine Kd.C_drew ?_)))
       (case side2 => exact HC282_13.out)
       (case side3 => repeat (first | exact (Kd.C_below HR284_13.out HB.out) | (with_reducible refine Kd.C_alloc ?_ _) | (with_reducible refine Kd.C_drewN ?_ _) | (with_reducible refine Kd.C_drew ?_)))
       (case side4 => exact HC284_13.out)
       rintro e w39 ⟨rfl, hb⟩
       refine ⟨_, rfl, ?_⟩
       have n0_ := Aside0.mk (blk_below (g := gb283) (bk BK283) hb)
       have n1_ := Aside0.mk (below_step (gw_ HB) hb)
       clear BK283
       clear HB
       have BK283 := n0_
       have HB := n1_
       clear n0_ n1_
       (try clear hb)
       (try clear hb2)
       (try clear hk)
       (try clear hi)
       refine hK.out _ _ ⟨(blk_cell BK283.out 0).trans rfl, (blk_cell BK283.out 1).trans rfl, (blk_cell BK283.out 2).trans rfl, (blk_cell BK283.out 3).trans rfl, (blk_cell BK283.out 4).trans rfl, (blk_cell BK283.out 5).trans rfl, (blk_cell BK283.out 6).trans rfl, (blk_cell BK283.out 7).trans rfl, (blk_cell BK283.out 8).trans rfl, (blk_cell BK283.out 9).trans rfl, (blk_cell BK283.out 10).trans rfl, (blk_cell BK283.out 11).trans rfl, (blk_cell BK283.out 12).trans rfl, ((HB.out.cell (World.block_lt_of_cell? w _ hw284_0)).trans hw284_0), ((HB.out.cell (World.block_lt_of_cell? w _ hw284_1)).trans hw284_1), ((HB.out.cell (World.block_lt_of_cell? w _ hw284_2)).trans hw284_2), ((HB.out.cell (World.block_lt_of_cell? w _ hw284_3)).trans hw284_3), ((HB.out.cell (World.block_lt_of_cell? w _ hw284_4)).trans hw284_4), ((HB.out.cell (World.block_lt_of_cell? w _ hw284_5)).trans hw284_5), ((HB.out.cell (World.block_lt_of_cell? w _ hw284_6)).trans hw284_6), ((HB.out.cell (World.block_lt_of_cell? w _ hw284_7)).trans hw284_7), ((HB.out.cell (World.block_lt_of_cell? w _ hw284_8)).trans hw284_8), ((HB.out.cell (World.block_lt_of_cell? w _ hw284_9)).trans hw284_9), ((HB.out.cell (World.block_lt_of_cell? w _ hw284_10)).trans hw284_10), ((HB.out.cell (World.block_lt_of_cell? w _ hw284_11)).trans hw284_11), ((HB.out.cell (World.block_lt_of_cell? w _ hw284_12)).trans hw284_12), ((HB.out.cell (World.block_lt_of_cell? w _ hw284_13)).trans hw284_13)⟩ (fun hHeld => ?_)
       clear hK K
       refine norm_ (a' := ?_) ?_ ?_
       rotate_left
       ·
        show Act.put _ (some 26) _ = _
        simp only [Act.put, List.setIfInBounds_toArray, List.set_cons_zero, List.set_cons_succ, i64_w, i32_w]
        rfl
       refine pure_ (i := 8) (N := some 7) (v := ?_) (a' := ?_) q30_40 rfl rfl (any_of HT_.out (by kernel_rfl)) (fun _ _ _ h => h) (Or.inl ⟨by rfl, ?_⟩) ?_ ?_
       rotate_left
       ·
        intro w'
        go_simp
        with_reducible rfl
       rotate_left
       ·
        simp only [Act.put, List.setIfInBounds_toArray, List.set_cons_zero, List.set_cons_succ, i64_w, i32_w]
        rfl
       refine done_ (done_of HT_.out (by kernel_rfl)) ?_
       try go_wp2
       have n0_ := Aside0.mk (blk_drew BK283.out)
       have n1_ := Aside0.mk (below_drew1 HB.out)
       clear BK283
       clear HB
       have BK283 := n0_
       have HB := n1_
       clear n0_ n1_
       refine start_ (n := 24) (S := fun w' => w'.cell? ⟨gb283, 0, none⟩ = some (.int .i64 ((rd_T35 l1 x5_1).f1.f0)) ∧ w'.cell? ⟨gb283, 1, none⟩ = some (.int .i64 ((rd_T35 l1 x5_1).f1.f1.f0)) ∧ w'.cell? ⟨gb283, 2, none⟩ = some (.int .i64 ((rd_T35 l1 x5_1).f1.f1.f1)) ∧ w'.cell? ⟨gb283, 3, none⟩ = some (.int .i64 ((rd_T35 l1 x5_1).f1.f2.f0)) ∧ w'.cell? ⟨gb283, 4, none⟩ = some (.int .i64 ((rd_T35 l1 x5_1).f1.f2.f1)) ∧ w'.cell? ⟨gb283, 5, none⟩ = some (.int .i64 ((rd_T35 l1 x5_1).f1.f3.f0)) ∧ w'.cell? ⟨gb283, 6, none⟩ = some (.int .i64 ((rd_T35 l1 x5_1).f1.f3.f1)) ∧ w'.cell? ⟨gb283, 7, none⟩ = some (.int .i64 ((rd_T35 l1 x5_1).f1.f3.f2)) ∧ w'.cell? ⟨gb283, 8, none⟩ = some (.int .i64 ((rd_T35 l1 x5_1).f1.f3.f3)) ∧ w'.cell? ⟨gb283, 9, none⟩ = some (.int .i64 ((rd_T35 l1 x5_1).f1.f3.f4)) ∧ w'.cell? ⟨gb283, 10, none⟩ = some (.string ((rd_T35 l1 x5_1).f1.f3.f5)) ∧ w'.cell? ⟨gb283, 11, none⟩ = some (.int .i64 ((rd_T35 l1 x5_1).f1.f4.f0)) ∧ w'.cell? ⟨gb283, 12, none⟩ = some (.slice A282_13 ((rd_T35 l1 x5_1).f1.f4.f1).length c282_13)) (ds := []) q30_0 (by kernel_rfl) rfl rfl ⟨(blk_cell BK283.out 0).trans rfl, (blk_cell BK283.out 1).trans rfl, (blk_cell BK283.out 2).trans rfl, (blk_cell BK283.out 3).trans rfl, (blk_cell BK283.out 4).trans rfl, (blk_cell BK283.out 5).trans rfl, (blk_cell BK283.out 6).trans rfl, (blk_cell BK283.out 7).trans rfl, (blk_cell BK283.out 8).trans rfl, (blk_cell BK283.out 9).trans rfl, (blk_cell BK283.out 10).trans rfl, (blk_cell BK283.out 11).trans rfl, (blk_cell BK283.out 12).trans rfl⟩ (fun hHeld => ?_); refine with_tabW colloquyref10_first.tab6 colloquyref10_first.bits6 (fun HT_ HW_ => ?_)
       generalize w39.drew = w40 at BK283 HB hHeld ⊢
       refine pure_ (i := 0) (N := some 27) (v := ?_) (a' := ?_) q30_1 rfl rfl (any_of HT_.out (by kernel_rfl)) (fun _ _ _ h => h) (Or.inl ⟨by rfl, ?_⟩) ?_ ?_
       rotate_left
       ·
        intro w'
        go_simp
        with_reducible rfl
       rotate_left
       ·
        simp only [Act.put, List.setIfInBounds_toArray, List.set_cons_zero, List.set_cons_succ, i64_w, i32_w]
        rfl
       refine take_ (i := 1) (N := some 28) (v := ?_) (a' := ?_) q30_2 rfl rfl (take_ofW HT_.out HW_.out (by kernel_rfl)) (fun _ _ _ h => h) (Or.inl ⟨by rfl, ?_⟩) hHeld ?_ ?_
       rotate_left
       ·
        rintro w' ⟨s0, s1, s2, s3, s4, s5, s6, s7, s8, s9, s10, s11, s12⟩
        go_simp
        with_reducible rfl
       rotate_left
       ·
        simp only [Act.put, List.setIfInBounds_toArray, List.set_cons_zero, List.set_cons_succ, i64_w, i32_w]
        rfl
       refine pure_ (i := 2) (N := some 29) (v := ?_) (a' := ?_) q30_3 rfl rfl (any_of HT_.out (by kernel_rfl)) (fun _ _ _ h => h) (Or.inl ⟨by rfl, ?_⟩) ?_ ?_
       rotate_left
       ·
        intro w'
        go_simp
        with_reducible rfl
       rotate_left
       ·
        simp only [Act.put, List.setIfInBounds_toArray, List.set_cons_zero, List.set_cons_succ, i64_w, i32_w]
        rfl
       refine pure_ (i := 3) (N := some 30) (v := ?_) (a' := ?_) q30_4 rfl rfl (any_of HT_.out (by kernel_rfl)) (fun _ _ _ h => h) (Or.inl ⟨by rfl, ?_⟩) ?_ ?_
       rotate_left
       ·
        intro w'
        go_simp
        with_reducible rfl
       rotate_left
       ·
        simp only [Act.put, List.setIfInBounds_toArray, List.set_cons_zero, List.set_cons_succ, i64_w, i32_w]
        rfl
       refine pure_ (i := 4) (N := some 31) (v := undef) (a' := ?_) q30_5 rfl rfl (any_of HT_.out (by kernel_rfl)) (fun _ _ _ h => h) (Or.inr ⟨by rfl, rfl⟩) ?_ ?_
       rotate_left
       ·
        simp only [Act.put, List.setIfInBounds_toArray, List.set_cons_zero, List.set_cons_succ, i64_w, i32_w]
        rfl
       refine pure_ (i := 5) (N := some 32) (v := undef) (a' := ?_) q30_7 rfl rfl (any_of HT_.out (by kernel_rfl)) (fun _ _ _ h => h) (Or.inr ⟨by rfl, rfl⟩) ?_ ?_
       rotate_left
       ·
        simp only [Act.put, List.setIfInBounds_toArray, List.set_cons_zero, List.set_cons_succ, i64_w, i32_w]
        rfl
       refine pure_ (i := 6) (N := some 33) (v := undef) (a' := ?_) q30_9 rfl rfl (any_of HT_.out (by kernel_rfl)) (fun _ _ _ h => h) (Or.inr ⟨by rfl, rfl⟩) ?_ ?_
       rotate_left
       ·
        simp only [Act.put, List.setIfInBounds_toArray, List.set_cons_zero, List.set_cons_succ, i64_w, i32_w]
        rfl
       refine pure_ (i := 7) (N := some 34) (v := undef) (a' := ?_) q30_10 rfl rfl (any_of HT_.out (by kernel_rfl)) (fun _ _ _ h => h) (Or.inr ⟨by rfl, rfl⟩) ?_ ?_
       rotate_left
       ·
        simp only [Act.put, List.setIfInBounds_toArray, List.set_cons_zero, List.set_cons_succ, i64_w, i32_w]
        rfl
       refine pure_ (i := 8) (N := some 35) (v := undef) (a' := ?_) q30_11 rfl rfl (any_of HT_.out (by kernel_rfl)) (fun _ _ _ h => h) (Or.inr ⟨by rfl, rfl⟩) ?_ ?_
       rotate_left
       ·
        simp only [Act.put, List.setIfInBounds_toArray, List.set_cons_zero, List.set_cons_succ, i64_w, i32_w]
        rfl
       refine pure_ (i := 9) (N := some 36) (v := ?_) (a' := ?_) q30_12 rfl rfl (any_of HT_.out (by kernel_rfl)) (fun _ _ _ h => h) (Or.inl ⟨by rfl, ?_⟩) ?_ ?_
       rotate_left
       ·
        intro w'
        go_simp
        with_reducible rfl
       rotate_left
       ·
        simp only [Act.put, List.setIfInBounds_toArray, List.set_cons_zero, List.set_cons_succ, i64_w, i32_w]
        rfl
       refine pure_ (i := 10) (N := some 37) (v := ?_) (a' := ?_) q30_13 rfl rfl (any_of HT_.out (by kernel_rfl)) (fun _ _ _ h => h) (Or.inl ⟨by rfl, ?_⟩) ?_ ?_
       rotate_left
       ·
        intro w'
        go_simp
        with_reducible rfl
       rotate_left
       ·
        simp only [Act.put, List.setIfInBounds_toArray, List.set_cons_zero, List.set_cons_succ, i64_w, i32_w]
        rfl
       refine pure_ (i := 11) (N := some 38) (v := undef) (a' := ?_) q30_14 rfl rfl (any_of HT_.out (by kernel_rfl)) (fun _ _ _ h => h) (Or.inr ⟨by rfl, rfl⟩) ?_ ?_
       rotate_left
       ·
        simp only [Act.put, List.setIfInBounds_toArray, List.set_cons_zero, List.set_cons_succ, i64_w, i32_w]
        rfl
       refine pure_ (i := 12) (N := some 39) (v := undef) (a' := ?_) q30_16 rfl rfl (any_of HT_.out (by kernel_rfl)) (fun _ _ _ h => h) (Or.inr ⟨by rfl, rfl⟩) ?_ ?_
       rotate_left
       ·
        simp only [Act.put, List.setIfInBounds_toArray, List.set_cons_zero, List.set_cons_succ, i64_w, i32_w]
        rfl
       refine pure_ (i := 13) (N := some 40) (v := undef) (a' := ?_) q30_18 rfl rfl (any_of HT_.out (by kernel_rfl)) (fun _ _ _ h => h) (Or.inr ⟨by rfl, rfl⟩) ?_ ?_
       rotate_left
       ·
        simp only [Act.put, List.setIfInBounds_toArray, List.set_cons_zero, List.set_cons_succ, i64_w, i32_w]
        rfl
       refine pure_ (i := 14) (N := some 41) (v := undef) (a' := ?_) q30_20 rfl rfl (any_of HT_.out (by kernel_rfl)) (fun _ _ _ h => h) (Or.inr ⟨by rfl, rfl⟩) ?_ ?_
       rotate_left
       ·
        simp only [Act.put, List.setIfInBounds_toArray, List.set_cons_zero, List.set_cons_succ, i64_w, i32_w]
        rfl
       refine pure_ (i := 15) (N := some 42) (v := undef) (a' := ?_) q30_22 rfl rfl (any_of HT_.out (by kernel_rfl)) (fun _ _ _ h => h) (Or.inr ⟨by rfl, rfl⟩) ?_ ?_
       rotate_left
       ·
        simp only [Act.put, List.setIfInBounds_toArray, List.set_cons_zero, List.set_cons_succ, i64_w, i32_w]
        rfl
       refine pure_ (i := 16) (N := some 43) (v := undef) (a' := ?_) q30_23 rfl rfl (any_of HT_.out (by kernel_rfl)) (fun _ _ _ h => h) (Or.inr ⟨by rfl, rfl⟩) ?_ ?_
       rotate_left
       ·
        simp only [Act.put, List.setIfInBounds_toArray, List.set_cons_zero, List.set_cons_succ, i64_w, i32_w]
        rfl
       refine pure_ (i := 17) (N := some 44) (v := undef) (a' := ?_) q30_24 rfl rfl (any_of HT_.out (by kernel_rfl)) (fun _ _ _ h => h) (Or.inr ⟨by rfl, rfl⟩) ?_ ?_
       rotate_left
       ·
        simp only [Act.put, List.setIfInBounds_toArray, List.set_cons_zero, List.set_cons_succ, i64_w, i32_w]
        rfl
       refine pure_ (i := 18) (N := some 45) (v := undef) (a' := ?_) q30_25 rfl rfl (any_of HT_.out (by kernel_rfl)) (fun _ _ _ h => h) (Or.inr ⟨by rfl, rfl⟩) ?_ ?_
       rotate_left
       ·
        simp only [Act.put, List.setIfInBounds_toArray, List.set_cons_zero, List.set_cons_succ, i64_w, i32_w]
        rfl
       refine pure_ (i := 19) (N := some 46) (v := ?_) (a' := ?_) q30_26 rfl rfl (any_of HT_.out (by kernel_rfl)) (fun _ _ _ h => h) (Or.inl ⟨by rfl, ?_⟩) ?_ ?_
       rotate_left
       ·
        intro w'
        go_simp
        with_reducible rfl
       rotate_left
       ·
        simp only [Act.put, List.setIfInBounds_toArray, List.set_cons_zero, List.set_cons_succ, i64_w, i32_w]
        rfl
       refine pure_ (i := 20) (N := some 47) (v := ?_) (a' := ?_) q30_27 rfl rfl (any_of HT_.out (by kernel_rfl)) (fun _ _ _ h => h) (Or.inl ⟨by rfl, ?_⟩) ?_ ?_
       rotate_left
       ·
        intro w'
        go_simp
        with_reducible rfl
       rotate_left
       ·
        simp only [Act.put, List.setIfInBounds_toArray, List.set_cons_zero, List.set_cons_succ, i64_w, i32_w]
        rfl
       refine pure_ (i := 21) (N := some 48) (v := undef) (a' := ?_) q30_28 rfl rfl (any_of HT_.out (by kernel_rfl)) (fun _ _ _ h => h) (Or.inr ⟨by rfl, rfl⟩) ?_ ?_
       rotate_left
       ·
        simp only [Act.put, List.setIfInBounds_toArray, List.set_cons_zero, List.set_cons_succ, i64_w, i32_w]
        rfl
       refine pure_ (i := 22) (N := some 49) (v := undef) (a' := ?_) q30_29 rfl rfl (any_of HT_.out (by kernel_rfl)) (fun _ _ _ h => h) (Or.inr ⟨by rfl, rfl⟩) ?_ ?_
       rotate_left
       ·
        simp only [Act.put, List.setIfInBounds_toArray, List.set_cons_zero, List.set_cons_succ, i64_w, i32_w]
        rfl
       refine pure_ (i := 23) (N := some 50) (v := ?_) (a' := ?_) q30_30 rfl rfl (any_of HT_.out (by kernel_rfl)) (fun _ _ _ h => h) (Or.inl ⟨by rfl, ?_⟩) ?_ ?_
       rotate_left
       ·
        intro w'
        go_simp
        with_reducible rfl
       rotate_left
       ·
        simp only [Act.put, List.setIfInBounds_toArray, List.set_cons_zero, List.set_cons_succ, i64_w, i32_w]
        rfl
       refine done_ (done_of HT_.out (by kernel_rfl)) ?_
       try go_wp2
       go_ret
       exact ⟨by first | rfl | (simp [errW_none, errW_some] <;> rfl) | (simp [*, errW_none, errW_some] <;> rfl), gw_ HB⟩
     ·
      rw [if_neg c5] at H
      exact absurd H (by simp)
    ·
     rw [if_neg c4] at H
     exact absurd H (by simp)
   ·
    rw [if_neg c3] at H
    have c3b0 : decide (x5_1 < (l1.length : Int)) = false := decide_eq_false c3
    clear c3
    obtain rfl := Option.some.inj H
    go_wp2
    go_ret
    exact ⟨by first | rfl | (simp [errW_none, errW_some] <;> rfl) | (simp [*, errW_none, errW_some] <;> rfl), gw_ HB⟩

end Go.Proofs.Ytomgiaakhpemaaa.P
