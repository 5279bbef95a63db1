/- Plain Lean functions and their contracts over the translation, written by a program of this session (myprint.py, over the kit's print); no condition but each contract's own. -/
import Derived.Test.YtolfjfepehmfgaaPx0
namespace Go.Proofs.Ytolfjfepehmfgaa.P
open Go.RowKit Go.Proofs.YtolfjfepehmfgaaW.PrintWords Go.Proofs.YtolfjfepehmfgaaW.PrintLast Go.Proofs.YtolfjfepehmfgaaW.PrintMore
attribute [local go_sem] max2_int min2_int max_two min_two max_three min_three max_four min_four   -- for this text's walks alone
set_option linter.unusedVariables false
set_option linter.unusedSimpArgs false

abbrev q11_0 : Array Bool := #[false, false, false, false, false, false, false, false, false, false, false, false]
abbrev q11_1 : Array Bool := #[true, false, false, false, false, false, false, false, false, false, false, false]
abbrev q11_2 : Array Bool := #[true, false, true, false, false, false, false, false, false, false, false, false]
abbrev q11_3 : Array Bool := #[true, false, true, true, false, false, false, false, false, false, false, false]
abbrev q11_4 : Array Bool := #[true, false, true, true, false, true, false, false, false, false, false, false]
abbrev q11_5 : Array Bool := #[true, false, true, true, false, true, false, false, true, false, false, false]
abbrev q11_6 : Array Bool := #[true, true, true, true, false, true, false, false, true, false, false, false]
abbrev q11_7 : Array Bool := #[true, true, true, true, true, true, false, false, true, false, false, false]
abbrev q11_8 : Array Bool := #[true, true, true, true, true, true, true, false, true, false, false, false]
abbrev q11_9 : Array Bool := #[true, true, true, true, true, true, true, true, true, false, false, false]
abbrev q11_10 : Array Bool := #[true, true, true, true, true, true, true, true, true, true, false, false]
abbrev q11_11 : Array Bool := #[true, true, true, true, true, true, true, true, true, true, true, false]
abbrev q11_12 : Array Bool := #[true, true, true, true, true, true, true, true, true, true, true, true]
mutual
def attr_Merge.l0 : Nat → List (S27) → Int → Int → Int → List Int → Option (Int × List Int)
 | 0, _, _, _, _, _ => none
 | k + 1, x8, x9, x10, x103000, x103001 => if x10 < x9 then (if 0 ≤ x10 then (if x10 < (x8.length : Int) then (attr_Merge.l1 k x8 x9 x10 ((rd_T27 x8 x10).f1) (((rd_T27 x8 x10).f1).length : Int) 0 (mx x103000 ((rd_T27 x8 x10).f0)) x103001) else (none)) else (none)) else (some (x103000, x103001))
def attr_Merge.l1 : Nat → List (S27) → Int → Int → List Int → Int → Int → Int → List Int → Option (Int × List Int)
 | 0, _, _, _, _, _, _, _, _ => none
 | k + 1, x8, x9, x10, x21, x22, x23, x103000, x103001 => if x23 < x22 then (if 0 ≤ x23 then (if x23 < (x21.length : Int) then (if x23 = (x103001.length : Int) then (if x103001.length < 17592186044416 then ((some (x103001 ++ [0] : List Int)).bind fun y106 => (if x23 < (y106.length : Int) then (attr_Merge.l1 k x8 x9 x10 x21 x22 (wrap64 (x23 + 1)) x103000 (y106.set (x23 : Int).toNat (mx (rd y106 x23) (rd x21 x23)))) else (none))) else (none)) else (if x23 < (x103001.length : Int) then (attr_Merge.l1 k x8 x9 x10 x21 x22 (wrap64 (x23 + 1)) x103000 (x103001.set (x23 : Int).toNat (mx (rd x103001 x23) (rd x21 x23)))) else (none))) else (none)) else (none)) else (attr_Merge.l0 k x8 x9 (wrap64 (x10 + 1)) x103000 x103001)
end
def attr_Merge.f (k : Nat) (l0 : List (S27)) : Option (Int × List Int) := attr_Merge.l0 k l0 (l0.length : Int) 0 0 ([] : List Int)
def attr_Merge.T11 : Bool × List (List Nat × List Nat) := (true, [([], []), ([0], [0]), ([], []), ([], []), ([3], [3]), ([], []), ([4, 5], [4, 5]), ([6], [6]), ([], []), ([7, 8], [7, 8]), ([1, 2, 0, 1, 2, 3, 4, 5, 6, 7, 8, 9], [1, 2]), ([10, 9, 0, 1, 2, 3, 4, 5, 6, 7, 8, 9], [9, 10])])
def attr_Merge.B11 : List Nat := [0, 1, 0, 0, 8, 0, 56, 120, 0, 504, 1023, 2047]
theorem attr_Merge.tab11 : rtab .any (opsOf Try.f11 11) = attr_Merge.T11 := by kernel_rfl
theorem attr_Merge.bits11 : waitsOk attr_Merge.T11.2 attr_Merge.B11 = true := by kernel_rfl
set_option maxHeartbeats 8000000 in
set_option maxRecDepth 100000 in
theorem attr_Merge.calls (k : Nat) (A0 : Option Addr) (c0 : Nat) (l0 : List (S27)) (r1 : Int) (r2 : List Int) (w : World) (hr0 : Kd.C k27 w A0 l0.length l0) (hc0 : l0.length ≤ c0) (h : attr_Merge.f k l0 = some (r1, r2)) :
  Calls Try.prog 11 #[.slice A0 l0.length c0] w fun e w' => ∃ v1_ : Value, e = .returned (.agg #[.int .i64 r1, v1_]) ∧ Kd.R (Kd.int .i64) 3 w' w.heap.size (fun _ => True) v1_ r2 ∧ Below w.heap.size w w' := by
 have hu27 := Try.underlying27
 have HR0 := Aside0.mk hr0
 have HC0 := Aside0.mk hc0
 clear hr0 hc0
 have HB := Aside0.mk (Below.refl w.heap.size w)
 have H : (attr_Merge.l0 k l0 (l0.length : Int) 0 0 ([] : List Int)) = some (r1, r2) := h
 clear h
 have H' := Aside0.mk H
 clear H
 go_enter Try.func11, Try.ntmps11
 go_wp2_with (first | ((with_reducible refine gate_dst (N := 2) rfl ?_); refine box_event ?hg (N := 2) ?hd (cs := #[.int .i64 0, .slice none 0 0]) (t := 27) ?hr ?_; (case hd => rfl); (case hg => rfl); (case hr => first | (go_simp; done) | (go_simp; rfl)); intro gb101 hg w2 hbox hb; have s_ := step_size_ (gw_ HB) hb hg; have n0_ := Aside0.mk s_.1; have n1_ := Aside0.mk (hbox); have n2_ := Aside0.mk s_.2; clear s_; have n3_ := n2_; clear HB; have HB := n0_; have BK101 := n1_; have GW101 := n2_; have GE101 := n3_; clear n0_ n1_ n2_ n3_; clear hb hbox hg) | ((with_reducible refine gate_dst (N := 3) rfl ?_); refine box_event ?hg (N := 3) ?hd (cs := #[.int .i64 0, .slice none 0 0]) (t := 27) ?hr ?_; (case hd => rfl); (case hg => rfl); (case hr => first | (go_simp; done) | (go_simp; rfl)); intro gb102 hg w3 hbox hb; have n0_ := Aside0.mk (blk_below (g := gb101) (bk BK101) hb); have s_ := step_size_ (gw_ HB) hb hg; have n1_ := Aside0.mk s_.1; have n2_ := Aside0.mk (hbox); have n3_ := Aside0.mk s_.2; clear s_; have n4_ := n3_; have l_ := blk_lt_ (g := gb101) hg (bk BK101); have n5_ := Aside0.mk (Nat.ne_of_lt l_); have n6_ := Aside0.mk (Nat.ne_of_gt l_); clear l_; clear BK101; clear HB; have BK101 := n0_; have HB := n1_; have BK102 := n2_; have GW102 := n3_; have GE102 := n4_; have NB101_102 := n5_; have NB102_101 := n6_; clear n0_ n1_ n2_ n3_ n4_ n5_ n6_; clear hb hbox hg))
 go_loopg [10] k (fun kq v10 w' => ∃ (x10_1 : Int) (x103000_1 : Int) (x103001_1 : List Int) (u103001 : Value), v10 = .int .i64 x10_1 ∧ Aside0 (attr_Merge.l0 kq l0 (l0.length : Int) x10_1 x103000_1 x103001_1 = some (r1, r2)) ∧ Aside0 (kq ≤ k) ∧ Aside0 (Kd.R (Kd.int .i64) 3 w' w.heap.size (fun _ => True) u103001 x103001_1) ∧ Aside0 (w'.heap[gb101]? = some (.cells #[.int .i64 0, (.slice none 0 0)] 27 (0, 0))) ∧ Aside0 (w'.heap[gb102]? = some (.cells #[.int .i64 x103000_1, u103001] 27 (0, 0))) ∧ Aside0 (Below w.heap.size w w'))
 case atStart => exact ⟨(0), (0), (([] : List Int)), (.slice none 0 0), (by first | rfl | (simp; done) | (simp [*]; done)), H', ⟨Nat.le_refl _⟩, ⟨by first | exact Kd.R_nil _ _ _ _ _ | exact Kd.N_nil _ _ _ _ _ | exact Kd.V_nil _ _ _ _ _ | exact Kd.Q_nil _ _ _ _ _ | exact Kd.S_nil _ _ _ _ _⟩, ⟨by (with_reducible repeat (first | refine blk_drewN ?_ _ | refine blk_drew ?_ | refine blk_alloc ?_ _)); exact BK101.out⟩, ⟨by (with_reducible repeat (first | refine blk_drewN ?_ _ | refine blk_drew ?_ | refine blk_alloc ?_ _)); exact BK102.out⟩, ⟨gw_ HB⟩⟩
 case round =>
  clear H'
  try clear c1
  try clear p2
  obtain ⟨x10_1, x103000_1, x103001_1, u103001, rfl, HA, HK1, HO_103001, BK101, BK102, HB⟩ := hrel
  cases gk with
  | zero => exact absurd HA.out (by simp [attr_Merge.l0])
  | succ k1 =>
   have H := HA.out
   clear HA
   simp only [attr_Merge.l0] at H
   by_cases c4 : x10_1 < (l0.length : Int)
   ·
    rw [if_pos c4] at H
    have c4b0 : decide (x10_1 < (l0.length : Int)) = true := decide_eq_true c4
    clear c4
    by_cases c5 : 0 ≤ x10_1
    ·
     rw [if_pos c5] at H
     have c5b0 : decide (0 ≤ x10_1) = true := decide_eq_true c5
     clear c5
     by_cases c6 : x10_1 < (l0.length : Int)
     ·
      rw [if_pos c6] at H
      have c6b0 : decide (x10_1 < (l0.length : Int)) = true := decide_eq_true c6
      clear c6
      obtain ⟨ji7, hji7⟩ : ∃ j_ : Int, (mx x103000_1 ((rd_T27 l0 x10_1).f0)) = j_ := ⟨_, rfl⟩
      replace H : (attr_Merge.l1 k1 l0 (l0.length : Int) x10_1 ((rd_T27 l0 x10_1).f1) (((rd_T27 l0 x10_1).f1).length : Int) 0 ji7 x103001_1) = some (r1, r2) := by first | (rw [hji7] at H; exact H) | (simp only [hji7] at H ⊢; exact H)
      have hji7_ : (if x103000_1 < ((rd_T27 l0 x10_1).f0) then ((rd_T27 l0 x10_1).f0) else x103000_1) = ji7 := hji7
      have H' := Aside0.mk H
      clear H
      have p103 : 0 ≤ (x10_1 : Int) := of_decide_eq_true (by first | (with_reducible assumption) | assumption)
      have q103 : x10_1 < (l0.length : Int) := of_decide_eq_true (by first | (with_reducible assumption) | assumption)
      obtain ⟨ad103, A103_1, c103_1, e103, hx103_0, hx103_1, hl103_1, hi103_1⟩ := at_T27 HR0.out x10_1 p103 q103
      cases e103
      replace hx103_0 := (HB.out.cell (World.block_lt_of_cell? w _ hx103_0)).trans hx103_0
      replace hx103_1 := (HB.out.cell (World.block_lt_of_cell? w _ hx103_1)).trans hx103_1
      have HR103_1 := Aside0.mk hi103_1
      have HC103_1 := Aside0.mk hl103_1
      clear hi103_1 hl103_1
      replace p103 := eq_true p103
      replace q103 := eq_true q103
      go_wp2_with (first | ((with_reducible refine gate_dst (N := 5) rfl ?_); refine box_event ?hg (N := 5) ?hd (cs := #[.int .i64 0, .slice none 0 0]) (t := 27) ?hr ?_; (case hd => rfl); (case hg => rfl); (case hr => first | (go_simp; done) | (go_simp; rfl)); intro gb104 hg w8 hbox hb; have n0_ := Aside0.mk (Kd.R_below (Kd.rk HO_103001) hb); have n1_ := Aside0.mk (blk_below (g := gb101) (bk BK101) hb); have n2_ := Aside0.mk (blk_below (g := gb102) (bk BK102) hb); have s_ := step_size_ (gw_ HB) hb hg; have n3_ := Aside0.mk s_.1; have n4_ := Aside0.mk (hbox); have n5_ := Aside0.mk s_.2; clear s_; have n6_ := n5_; have l_ := blk_lt_ (g := gb101) hg (bk BK101); have n7_ := Aside0.mk (Nat.ne_of_lt l_); have n8_ := Aside0.mk (Nat.ne_of_gt l_); clear l_; have l_ := blk_lt_ (g := gb102) hg (bk BK102); have n9_ := Aside0.mk (Nat.ne_of_lt l_); have n10_ := Aside0.mk (Nat.ne_of_gt l_); clear l_; clear HO_103001; clear BK101; clear BK102; clear HB; have HO_103001 := n0_; have BK101 := n1_; have BK102 := n2_; have HB := n3_; have BK104 := n4_; have GW104 := n5_; have GE104 := n6_; have NB101_104 := n7_; have NB104_101 := n8_; have NB102_104 := n9_; have NB104_102 := n10_; clear n0_ n1_ n2_ n3_ n4_ n5_ n6_ n7_ n8_ n9_ n10_; clear hb hbox hg; have hnb9 := NB104_101.out; have hnc9 := NB101_104.out; have hnb10 := NB104_102.out; have hnc10 := NB102_104.out; obtain ⟨hcz11_0, hcz11_1⟩ := blk_cells2 BK104.out; obtain ⟨hfz11_0, hfz11_1⟩ := blk_frozens2 BK104.out; have hnb12 := NB102_101.out; have hnc12 := NB101_102.out; obtain ⟨hcz13_0, hcz13_1⟩ := blk_cells2 BK102.out; have hfz13_0 := blk_frozen BK102.out 0; have hfz13_1 := blk_frozen BK102.out 1))
      go_loopg [23] k1 (fun kq v23 w' => ∃ (x23_2 : Int) (x103001_2 : List Int) (u103001 : Value), v23 = .int .i64 x23_2 ∧ Aside0 (attr_Merge.l1 kq l0 (l0.length : Int) x10_1 ((rd_T27 l0 x10_1).f1) (((rd_T27 l0 x10_1).f1).length : Int) x23_2 ji7 x103001_2 = some (r1, r2)) ∧ Aside0 (kq ≤ k1) ∧ Aside0 (Kd.R (Kd.int .i64) 3 w' w.heap.size (fun _ => True) u103001 x103001_2) ∧ Aside0 (w'.heap[gb101]? = some (.cells #[.int .i64 0, (.slice none 0 0)] 27 (0, 0))) ∧ Aside0 (w'.heap[gb102]? = some (.cells #[.int .i64 ji7, u103001] 27 (0, 0))) ∧ Aside0 (w'.heap[gb104]? = some (.cells #[.int .i64 ((rd_T27 l0 x10_1).f0), (.slice A103_1 ((rd_T27 l0 x10_1).f1).length c103_1)] 27 (0, 0))) ∧ Aside0 (Below w.heap.size w w'))
      case atStart => exact ⟨(0), (x103001_1), (u103001), (by first | rfl | (simp; done) | (simp [*]; done)), H', ⟨Nat.le_refl _⟩, ⟨by (with_reducible repeat (first | apply Kd.R_alloc | apply Kd.R_drewN | apply Kd.R_drew)); exact Kd.R_mono (Kd.R_far (p := ⟨gb102, 0, none⟩) (Kd.R_far (p := ⟨gb104, 1, none⟩) (Kd.R_far (p := ⟨gb104, 0, none⟩) (Kd.R_types (Kd.R_types HO_103001.out BK104.out (by decide)) BK102.out (by decide)) (fun _ hk => hk.1.2) (.int .i64 ((rd_T27 l0 x10_1).f0))) (fun _ hk => hk.1.2) (.slice A103_1 ((rd_T27 l0 x10_1).f1).length c103_1)) (fun _ hk => hk.2) (.int .i64 ji7)) (fun _ hk => trivial)⟩, ⟨by (with_reducible repeat (first | refine blk_drewN ?_ _ | refine blk_drew ?_ | refine blk_alloc ?_ _)); refine blk_far ?_ NB101_102.out _; (with_reducible repeat (first | refine blk_drewN ?_ _ | refine blk_drew ?_ | refine blk_alloc ?_ _)); refine blk_far ?_ NB101_104.out _; (with_reducible repeat (first | refine blk_drewN ?_ _ | refine blk_drew ?_ | refine blk_alloc ?_ _)); refine blk_far ?_ NB101_104.out _; (with_reducible repeat (first | refine blk_drewN ?_ _ | refine blk_drew ?_ | refine blk_alloc ?_ _)); exact BK101.out⟩, ⟨by (with_reducible repeat (first | refine blk_drewN ?_ _ | refine blk_drew ?_ | refine blk_alloc ?_ _)); refine blk_put (cs := #[.int .i64 x103000_1, u103001]) ?_ 0 _ rfl; (with_reducible repeat (first | refine blk_drewN ?_ _ | refine blk_drew ?_ | refine blk_alloc ?_ _)); refine blk_far ?_ NB102_104.out _; (with_reducible repeat (first | refine blk_drewN ?_ _ | refine blk_drew ?_ | refine blk_alloc ?_ _)); refine blk_far ?_ NB102_104.out _; (with_reducible repeat (first | refine blk_drewN ?_ _ | refine blk_drew ?_ | refine blk_alloc ?_ _)); exact BK102.out⟩, ⟨by (with_reducible repeat (first | refine blk_drewN ?_ _ | refine blk_drew ?_ | refine blk_alloc ?_ _)); refine blk_far ?_ NB104_102.out _; (with_reducible repeat (first | refine blk_drewN ?_ _ | refine blk_drew ?_ | refine blk_alloc ?_ _)); refine blk_put (cs := #[.int .i64 ((rd_T27 l0 x10_1).f0), .slice none 0 0]) ?_ 1 _ rfl; (with_reducible repeat (first | refine blk_drewN ?_ _ | refine blk_drew ?_ | refine blk_alloc ?_ _)); refine blk_put (cs := #[.int .i64 0, .slice none 0 0]) ?_ 0 _ rfl; (with_reducible repeat (first | refine blk_drewN ?_ _ | refine blk_drew ?_ | refine blk_alloc ?_ _)); exact BK104.out⟩, ⟨gw_ HB⟩⟩
      case round =>
       clear H'
       try clear c1
       try clear p1
       try clear q1
       try clear hx1
       try clear p2
       try clear c4
       try clear c4b0
       try clear c5
       try clear c5b0
       try clear c6
       try clear c6b0
       try clear c9
       try clear c10
       try clear p10
       try clear q10
       try clear hx10
       try clear c11
       try clear c12
       try clear hcz11_0
       try clear hcz11_1
       try clear hcz13_0
       try clear hcz13_1
       try clear hfz11_0
       try clear hfz11_1
       try clear hfz13_0
       try clear hfz13_1
       try clear hx103_0
       try clear hx103_1
       try clear p103
       try clear p2
       try clear q103
       obtain ⟨x23_2, x103001_2, u103001, rfl, HA, HK2, HO_103001, BK101, BK102, BK104, HB⟩ := hrel
       cases gk with
       | zero => exact absurd HA.out (by simp [attr_Merge.l1])
       | succ k2 =>
        have H := HA.out
        clear HA
        simp only [attr_Merge.l1] at H
        by_cases c14 : x23_2 < (((rd_T27 l0 x10_1).f1).length : Int)
        ·
         rw [if_pos c14] at H
         have c14b0 : decide (x23_2 < (((rd_T27 l0 x10_1).f1).length : Int)) = true := decide_eq_true c14
         clear c14
         by_cases c15 : 0 ≤ x23_2
         ·
          rw [if_pos c15] at H
          have c15b0 : decide (0 ≤ x23_2) = true := decide_eq_true c15
          clear c15
          by_cases c16 : x23_2 < (((rd_T27 l0 x10_1).f1).length : Int)
          ·
           rw [if_pos c16] at H
           have c16b0 : decide (x23_2 < (((rd_T27 l0 x10_1).f1).length : Int)) = true := decide_eq_true c16
           clear c16
           by_cases c17 : x23_2 = (x103001_2.length : Int)
           ·
            rw [if_pos c17] at H
            have c17b0 : (x23_2 == (x103001_2.length : Int)) = true := beq_iff_eq.mpr c17
            have c17b1 : (x23_2 != (x103001_2.length : Int)) = false := bne_eq_false_iff_eq.mpr c17
            clear c17
            by_cases c18 : x103001_2.length < 17592186044416
            ·
             rw [if_pos c18] at H
             have LMc18 := Aside0.mk c18
             clear c18
             obtain ⟨y106, hy106⟩ : ∃ y_ : List Int, y_ = (x103001_2 ++ [0]) := ⟨_, rfl⟩
             replace H : (if x23_2 < (y106.length : Int) then (attr_Merge.l1 k2 l0 (l0.length : Int) x10_1 ((rd_T27 l0 x10_1).f1) (((rd_T27 l0 x10_1).f1).length : Int) (wrap64 (x23_2 + 1)) ji7 (y106.set (x23_2 : Int).toNat (mx (rd y106 x23_2) (rd ((rd_T27 l0 x10_1).f1) x23_2)))) else (none)) = some (r1, r2) := by first | (rw [hy106]; with_reducible exact H) | (have H2_ := (Option.bind_some _ _).symm.trans H; rw [hy106]; with_reducible exact H2_) | (have H2_ := (Option.bind_some _ _).symm.trans H; with_reducible exact H2_) | with_reducible exact H | (rw [hy106]; exact H) | exact H
             have Ny106 := Aside0.mk hy106
             clear hy106
             by_cases c19 : x23_2 < (y106.length : Int)
             ·
              rw [if_pos c19] at H
              have c19b0 : decide (x23_2 < (y106.length : Int)) = true := decide_eq_true c19
              clear c19
              obtain ⟨ji20, hji20⟩ : ∃ j_ : Int, (mx (rd y106 x23_2) (rd ((rd_T27 l0 x10_1).f1) x23_2)) = j_ := ⟨_, rfl⟩
              replace H : (attr_Merge.l1 k2 l0 (l0.length : Int) x10_1 ((rd_T27 l0 x10_1).f1) (((rd_T27 l0 x10_1).f1).length : Int) (wrap64 (x23_2 + 1)) ji7 (y106.set (x23_2 : Int).toNat (ji20))) = some (r1, r2) := by first | (rw [hji20] at H; exact H) | (simp only [hji20] at H ⊢; exact H)
              have hji20_ : (if (rd y106 x23_2) < (rd ((rd_T27 l0 x10_1).f1) x23_2) then (rd ((rd_T27 l0 x10_1).f1) x23_2) else (rd y106 x23_2)) = ji20 := hji20
              obtain ⟨y110, hy110⟩ : ∃ y_ : List Int, y_ = (y106.set (x23_2 : Int).toNat (ji20)) := ⟨_, rfl⟩
              replace H : (attr_Merge.l1 k2 l0 (l0.length : Int) x10_1 ((rd_T27 l0 x10_1).f1) (((rd_T27 l0 x10_1).f1).length : Int) (wrap64 (x23_2 + 1)) ji7 y110) = some (r1, r2) := by first | (rw [hy110]; with_reducible exact H) | (have H2_ := (Option.bind_some _ _).symm.trans H; rw [hy110]; with_reducible exact H2_) | (have H2_ := (Option.bind_some _ _).symm.trans H; with_reducible exact H2_) | with_reducible exact H | (rw [hy110]; exact H) | exact H
              have Ny110 := Aside0.mk hy110
              clear hy110
              have H' := Aside0.mk H
              clear H
              have p105 : 0 ≤ (x23_2 : Int) := of_decide_eq_true (by first | (with_reducible assumption) | assumption)
              have q105 : x23_2 < (((rd_T27 l0 x10_1).f1).length : Int) := of_decide_eq_true (by first | (with_reducible assumption) | assumption)
              obtain ⟨ad105, e105, hx105_0⟩ := Kd.at_int HR103_1.out x23_2 p105 q105
              cases e105
              replace hx105_0 := (HB.out.cell (World.block_lt_of_cell? w _ hx105_0)).trans hx105_0
              replace p105 := eq_true p105
              replace q105 := eq_true q105
              have hnb22 := NB102_101.out
              have hnc22 := NB101_102.out
              have hnb23 := NB102_104.out
              have hnc23 := NB104_102.out
              obtain ⟨hcz24_0, hcz24_1⟩ := blk_cells2 BK102.out
              obtain ⟨hfz24_0, hfz24_1⟩ := blk_frozens2 BK102.out
              obtain ⟨Ao25, co25, eo25⟩ := Kd.R_slice HO_103001.out
              subst eo25
              try go_wp2_with (first | ((with_reducible refine gate_builtin (b := .append) (xs := #[.tmp 34, .tmp 35]) rfl ?_); at_builtin; refine Kd.R_append (Kd.int .i64) (w0 := w) w.heap.size rfl (.tmp 34) (.tmp 35) 25 3 (.int .i64 0) 8 rfl Try.underlying25 info3 rfl (by decide) (by omega) (.slice Ao25 x103001_2.length co25) x103001_2 0 [.int .i64 0] (fun _ => True) (fun _ => False) rfl rfl ?aP (fun _ hk => hk.elim) ?aF ?aO ?aB ?aS ?aL ?_; (case aP => exact rfl); (case aB => exact (gw_ HB)); (case aF => exact (fun _ _ => trivial)); (case aO => exact (Kd.rk HO_103001)); (case aS => exact (below_size (gw_ HB))); (case aL => have := LMc18.out; omega); intro v107 w26 ho hb hg hat; rw [← Ny106.out] at ho; have n0_ := Aside0.mk (blk_grown (g := gb101) (bk BK101) hg (Kd.R_ne HO_103001.out BK101.out (by decide))); have n1_ := Aside0.mk (blk_grown (g := gb102) (bk BK102) hg (Kd.R_ne HO_103001.out BK102.out (by decide))); have n2_ := Aside0.mk (blk_grown (g := gb104) (bk BK104) hg (Kd.R_ne HO_103001.out BK104.out (by decide))); have n3_ := Aside0.mk (hb); have n4_ := Aside0.mk (ho); clear BK101; clear BK102; clear BK104; clear HB; clear HO_103001; have BK101 := n0_; have BK102 := n1_; have BK104 := n2_; have HB := n3_; have HO108 := n4_; clear n0_ n1_ n2_ n3_ n4_; clear ho hb hg hat; obtain ⟨Ao27, co27, eo27⟩ := Kd.R_slice HO108.out; subst eo27; obtain ⟨hcz28_0, hcz28_1⟩ := blk_cells2 BK102.out; have hfz28_0 := blk_frozen BK102.out 0; have hfz28_1 := blk_frozen BK102.out 1))
              have n0_ : Aside0 (Kd.R (Kd.int .i64) 3 (w26.setCell ⟨gb102, 1, none⟩ (.slice Ao27 y106.length co27)) w.heap.size (fun _ => True) (.slice Ao27 y106.length co27) y106) := ⟨by (with_reducible repeat (first | apply Kd.R_alloc | apply Kd.R_drewN | apply Kd.R_drew)); exact Kd.R_mono (Kd.R_far (p := ⟨gb102, 1, none⟩) (Kd.R_types HO108.out BK102.out (by decide)) (fun _ hk => hk.2) (.slice Ao27 y106.length co27)) (fun _ hk => trivial)⟩
              have n1_ : Aside0 ((w26.setCell ⟨gb102, 1, none⟩ (.slice Ao27 y106.length co27)).heap[gb101]? = some (.cells #[.int .i64 0, .slice none 0 0] 27 (0, 0))) := ⟨by (with_reducible repeat (first | refine blk_drewN ?_ _ | refine blk_drew ?_ | refine blk_alloc ?_ _)); refine blk_far ?_ NB101_102.out _; (with_reducible repeat (first | refine blk_drewN ?_ _ | refine blk_drew ?_ | refine blk_alloc ?_ _)); exact BK101.out⟩
              have n2_ : Aside0 ((w26.setCell ⟨gb102, 1, none⟩ (.slice Ao27 y106.length co27)).heap[gb102]? = some (.cells #[.int .i64 ji7, .slice Ao27 y106.length co27] 27 (0, 0))) := ⟨by (with_reducible repeat (first | refine blk_drewN ?_ _ | refine blk_drew ?_ | refine blk_alloc ?_ _)); refine blk_put (cs := #[.int .i64 ji7, .slice Ao25 x103001_2.length co25]) ?_ 1 _ rfl; (with_reducible repeat (first | refine blk_drewN ?_ _ | refine blk_drew ?_ | refine blk_alloc ?_ _)); exact BK102.out⟩
              have n3_ : Aside0 ((w26.setCell ⟨gb102, 1, none⟩ (.slice Ao27 y106.length co27)).heap[gb104]? = some (.cells #[.int .i64 ((rd_T27 l0 x10_1).f0), .slice (some ad105) ((rd_T27 l0 x10_1).f1).length c103_1] 27 (0, 0))) := ⟨by (with_reducible repeat (first | refine blk_drewN ?_ _ | refine blk_drew ?_ | refine blk_alloc ?_ _)); refine blk_far ?_ NB104_102.out _; (with_reducible repeat (first | refine blk_drewN ?_ _ | refine blk_drew ?_ | refine blk_alloc ?_ _)); exact BK104.out⟩
              have n4_ : Aside0 (Below w.heap.size w (w26.setCell ⟨gb102, 1, none⟩ (.slice Ao27 y106.length co27))) := ⟨gw_ HB⟩
              (try clear HO108)
              (try clear BK101)
              (try clear BK102)
              (try clear BK104)
              (try clear HB)
              generalize (w26.setCell ⟨gb102, 1, none⟩ (.slice Ao27 y106.length co27)) = w29 at n0_ n1_ n2_ n3_ n4_ ⊢
              have HO108 := n0_
              have BK101 := n1_
              have BK102 := n2_
              have BK104 := n3_
              have HB := n4_
              clear n0_ n1_ n2_ n3_ n4_
              have n0_ := Aside0.mk (Kd.R_drew HO108.out)
              have n1_ := Aside0.mk (blk_drew BK101.out)
              have n2_ := Aside0.mk (blk_drew BK102.out)
              have n3_ := Aside0.mk (blk_drew BK104.out)
              have n4_ := Aside0.mk (below_drew1 HB.out)
              clear HO108
              clear BK101
              clear BK102
              clear BK104
              clear HB
              have HO108 := n0_
              have BK101 := n1_
              have BK102 := n2_
              have BK104 := n3_
              have HB := n4_
              clear n0_ n1_ n2_ n3_ n4_
              have p109 : 0 ≤ (x23_2 : Int) := of_decide_eq_true (by first | (with_reducible assumption) | assumption)
              have q109 : x23_2 < (y106.length : Int) := of_decide_eq_true (by first | (with_reducible assumption) | assumption)
              obtain ⟨ad109, e109, hx109_0⟩ := Kd.at_int (Kd.R_reads' HO108.out).2.2 x23_2 p109 q109
              cases e109
              replace p109 := eq_true p109
              replace q109 := eq_true q109
              have p21 : 0 ≤ (x23_2 : Int) := of_decide_eq_true (by first | (with_reducible assumption) | assumption)
              have q21 : (x23_2 : Int) < ((y106.length : Int) : Int) := of_decide_eq_true (by first | (with_reducible assumption) | assumption)
              obtain ⟨go21, co21, eo21, gb21, gl21, cl21, HG21⟩ := Kd.R_form HO108.out (by omega)
              (first | cases eo21 | (injection eo21 with ea_ en_ ec_; (first | subst ea_ | (injection ea_ with ea_; subst ea_)); subst ec_; clear en_))
              have GB21 := Aside0.mk gb21
              have GG21 := Aside0.mk HG21
              clear gb21 gl21 HG21
              (first | simp only [add_plain] at hx109_0 | skip)
              obtain ⟨hx21_0, hf21_0⟩ := Kd.R_celln 0 HO108.out (x23_2 : Int) p21 q21
              replace p21 := eq_true p21
              replace q21 := eq_true q21
              have HP31 := Kd.R_putn HO108.out (x23_2 : Int) ji20
              rw [← Ny110.out] at HP31
              have HQ31 := Aside0.mk HP31
              clear HP31
              refine start_ (n := 12) (S := fun w' => w'.cell? ⟨gb102, 0, none⟩ = some (.int .i64 ji7) ∧ w'.cell? ⟨gb102, 1, none⟩ = some (.slice (some ⟨go21, 0, none⟩) y106.length co27) ∧ w'.cell? ⟨go21, (x23_2).toNat, none⟩ = some (.int .i64 (rd y106 x23_2))) (ds := [11]) q11_0 (by kernel_rfl) rfl rfl ⟨(blk_cell BK102.out 0).trans rfl, (blk_cell BK102.out 1).trans rfl, hx109_0⟩ (fun hHeld => ?_); refine with_tabW attr_Merge.tab11 attr_Merge.bits11 (fun HT_ HW_ => ?_)
              generalize w29.drew = w30 at HO108 BK101 BK102 BK104 HB GG21 HQ31 hf21_0 hx109_0 hx21_0 hHeld ⊢
              refine pure_ (i := 0) (N := some 38) (v := ?_) (a' := ?_) q11_1 rfl rfl (any_of HT_.out (by kernel_rfl)) (fun _ _ _ h => h) (Or.inl ⟨by rfl, ?_⟩) ?_ ?_
              rotate_left
              ·
               intro w'
               go_simp
               with_reducible rfl
              rotate_left
              ·
               simp only [Act.put, List.setIfInBounds_toArray, List.set_cons_zero, List.set_cons_succ, i64_w, i32_w]
               rfl
              refine pure_ (i := 2) (N := some 40) (v := ?_) (a' := ?_) q11_2 rfl rfl (any_of HT_.out (by kernel_rfl)) (fun _ _ _ h => h) (Or.inl ⟨by rfl, ?_⟩) ?_ ?_
              rotate_left
              ·
               intro w'
               go_simp
               with_reducible rfl
              rotate_left
              ·
               simp only [Act.put, List.setIfInBounds_toArray, List.set_cons_zero, List.set_cons_succ, i64_w, i32_w]
               rfl
              refine pure_ (i := 3) (N := some 41) (v := ?_) (a' := ?_) q11_3 rfl rfl (any_of HT_.out (by kernel_rfl)) (fun _ _ _ h => h) (Or.inl ⟨by rfl, ?_⟩) ?_ ?_
              rotate_left
              ·
               intro w'
               go_simp
               with_reducible rfl
              rotate_left
              ·
               simp only [Act.put, List.setIfInBounds_toArray, List.set_cons_zero, List.set_cons_succ, i64_w, i32_w]
               rfl
              refine pure_ (i := 5) (N := some 43) (v := ?_) (a' := ?_) q11_4 rfl rfl (any_of HT_.out (by kernel_rfl)) (fun _ _ _ h => h) (Or.inl ⟨by rfl, ?_⟩) ?_ ?_
              rotate_left
              ·
               intro w'
               go_simp
               with_reducible rfl
              rotate_left
              ·
               simp only [Act.put, List.setIfInBounds_toArray, List.set_cons_zero, List.set_cons_succ, i64_w, i32_w]
               rfl
              refine pure_ (i := 8) (N := some 46) (v := ?_) (a' := ?_) q11_5 rfl rfl (any_of HT_.out (by kernel_rfl)) (fun _ _ _ h => h) (Or.inl ⟨by rfl, ?_⟩) ?_ ?_
              rotate_left
              ·
               intro w'
               go_simp
               with_reducible rfl
              rotate_left
              ·
               simp only [Act.put, List.setIfInBounds_toArray, List.set_cons_zero, List.set_cons_succ, i64_w, i32_w]
               rfl
              refine take_ (i := 1) (N := some 39) (v := ?_) (a' := ?_) q11_6 rfl rfl (take_ofW HT_.out HW_.out (by kernel_rfl)) (fun _ _ _ h => h) (Or.inl ⟨by rfl, ?_⟩) hHeld ?_ ?_
              rotate_left
              ·
               rintro w' ⟨s0, s1, s2⟩
               go_simp
               with_reducible rfl
              rotate_left
              ·
               simp only [Act.put, List.setIfInBounds_toArray, List.set_cons_zero, List.set_cons_succ, i64_w, i32_w]
               rfl
              refine take_ (i := 4) (N := some 42) (v := ?_) (a' := ?_) q11_7 rfl rfl (take_ofW HT_.out HW_.out (by kernel_rfl)) (fun _ _ _ h => h) (Or.inl ⟨by rfl, ?_⟩) hHeld ?_ ?_
              rotate_left
              ·
               rintro w' ⟨s0, s1, s2⟩
               go_simp
               with_reducible rfl
              rotate_left
              ·
               simp only [Act.put, List.setIfInBounds_toArray, List.set_cons_zero, List.set_cons_succ, i64_w, i32_w]
               rfl
              refine pure_ (i := 6) (N := some 44) (v := ?_) (a' := ?_) q11_8 rfl rfl (any_of HT_.out (by kernel_rfl)) (fun _ _ _ h => h) (Or.inl ⟨by rfl, ?_⟩) ?_ ?_
              rotate_left
              ·
               intro w'
               go_simp
               with_reducible rfl
              rotate_left
              ·
               simp only [Act.put, List.setIfInBounds_toArray, List.set_cons_zero, List.set_cons_succ, i64_w, i32_w]
               rfl
              refine take_ (i := 7) (N := some 45) (v := ?_) (a' := ?_) q11_9 rfl rfl (take_ofW HT_.out HW_.out (by kernel_rfl)) (fun _ _ _ h => h) (Or.inl ⟨by rfl, ?_⟩) hHeld ?_ ?_
              rotate_left
              ·
               rintro w' ⟨s0, s1, s2⟩
               go_simp
               with_reducible rfl
              rotate_left
              ·
               simp only [Act.put, List.setIfInBounds_toArray, List.set_cons_zero, List.set_cons_succ, i64_w, i32_w]
               rfl
              refine pure_ (i := 9) (N := some 47) (v := ?_) (a' := ?_) q11_10 rfl rfl (any_of HT_.out (by kernel_rfl)) (fun _ _ _ h => h) (Or.inl ⟨by rfl, ?_⟩) ?_ ?_
              rotate_left
              ·
               intro w'
               go_simp
               with_reducible rfl
              rotate_left
              ·
               simp only [Act.put, List.setIfInBounds_toArray, List.set_cons_zero, List.set_cons_succ, i64_w, i32_w]
               rfl
              refine pure_ (i := 10) (N := some 48) (v := ?_) (a' := ?_) q11_11 rfl rfl (any_of HT_.out (by kernel_rfl)) (fun _ _ _ h => h) (Or.inl ⟨by rfl, ?_⟩) ?_ ?_
              rotate_left
              ·
               intro w'
               go_simp
               with_reducible rfl
              rotate_left
              ·
               simp only [Act.put, List.setIfInBounds_toArray, List.set_cons_zero, List.set_cons_succ, i64_w, i32_w]
               rfl
              refine last_ (i := 11) (N := none) q11_12 rfl rfl (one_of HT_.out (by kernel_rfl)) (by decide) (fun K hK => ?_)
              refine skip_ (w1 := ?_) ?shw ?shN ?_ ?_
              case shw => exact rfl
              case shN => exact rfl
              rotate_left
              ·
               go_simp
               rfl
              refine hK.out _ _ ?_
              clear hK K
              refine done_ (done_of HT_.out (by kernel_rfl)) ?_
              try go_wp2
              go_roundg k2
              case measure => have := HK1.out; have := HK2.out; omega
              case rel => exact ⟨(wrap64 (x23_2 + 1)), (y110), (.slice (some ⟨go21, 0, none⟩) y106.length co27), (by first | rfl | (simp; done) | (simp [*]; done)), H', ⟨by have := HK1.out; have := HK2.out; omega⟩, ⟨by (with_reducible repeat (first | apply Kd.R_alloc | apply Kd.R_drewN | apply Kd.R_drew)); exact HQ31.out⟩, ⟨by (with_reducible repeat (first | refine blk_drewN ?_ _ | refine blk_drew ?_ | refine blk_alloc ?_ _)); refine blk_far ?_ (by have h_ := Kd.R_ne HO108.out BK101.out (by decide); intro e_; exact h_ (by rw [e_]; rfl)) _; (with_reducible repeat (first | refine blk_drewN ?_ _ | refine blk_drew ?_ | refine blk_alloc ?_ _)); exact BK101.out⟩, ⟨by (with_reducible repeat (first | refine blk_drewN ?_ _ | refine blk_drew ?_ | refine blk_alloc ?_ _)); refine blk_far ?_ (by have h_ := Kd.R_ne HO108.out BK102.out (by decide); intro e_; exact h_ (by rw [e_]; rfl)) _; (with_reducible repeat (first | refine blk_drewN ?_ _ | refine blk_drew ?_ | refine blk_alloc ?_ _)); exact BK102.out⟩, ⟨by (with_reducible repeat (first | refine blk_drewN ?_ _ | refine blk_drew ?_ | refine blk_alloc ?_ _)); refine blk_far ?_ (by have h_ := Kd.R_ne HO108.out BK104.out (by decide); intro e_; exact h_ (by rw [e_]; rfl)) _; (with_reducible repeat (first | refine blk_drewN ?_ _ | refine blk_drew ?_ | refine blk_alloc ?_ _)); exact BK104.out⟩, ⟨gw_ HB⟩⟩
             ·
              rw [if_neg c19] at H
              exact absurd H (by simp)
            ·
             rw [if_neg c18] at H
             exact absurd H (by simp)
           ·
            rw [if_neg c17] at H
            have c17b0 : (x23_2 == (x103001_2.length : Int)) = false := beq_eq_false_iff_ne.mpr c17
            have c17b1 : (x23_2 != (x103001_2.length : Int)) = true := bne_iff_ne.mpr c17
            by_cases c32 : x23_2 < (x103001_2.length : Int)
            ·
             rw [if_pos c32] at H
             have c32b0 : decide (x23_2 < (x103001_2.length : Int)) = true := decide_eq_true c32
             clear c32
             obtain ⟨ji33, hji33⟩ : ∃ j_ : Int, (mx (rd x103001_2 x23_2) (rd ((rd_T27 l0 x10_1).f1) x23_2)) = j_ := ⟨_, rfl⟩
             replace H : (attr_Merge.l1 k2 l0 (l0.length : Int) x10_1 ((rd_T27 l0 x10_1).f1) (((rd_T27 l0 x10_1).f1).length : Int) (wrap64 (x23_2 + 1)) ji7 (x103001_2.set (x23_2 : Int).toNat (ji33))) = some (r1, r2) := by first | (rw [hji33] at H; exact H) | (simp only [hji33] at H ⊢; exact H)
             have hji33_ : (if (rd x103001_2 x23_2) < (rd ((rd_T27 l0 x10_1).f1) x23_2) then (rd ((rd_T27 l0 x10_1).f1) x23_2) else (rd x103001_2 x23_2)) = ji33 := hji33
             obtain ⟨y112, hy112⟩ : ∃ y_ : List Int, y_ = (x103001_2.set (x23_2 : Int).toNat (ji33)) := ⟨_, rfl⟩
             replace H : (attr_Merge.l1 k2 l0 (l0.length : Int) x10_1 ((rd_T27 l0 x10_1).f1) (((rd_T27 l0 x10_1).f1).length : Int) (wrap64 (x23_2 + 1)) ji7 y112) = some (r1, r2) := by first | (rw [hy112]; with_reducible exact H) | (have H2_ := (Option.bind_some _ _).symm.trans H; rw [hy112]; with_reducible exact H2_) | (have H2_ := (Option.bind_some _ _).symm.trans H; with_reducible exact H2_) | with_reducible exact H | (rw [hy112]; exact H) | exact H
             have Ny112 := Aside0.mk hy112
             clear hy112
             have H' := Aside0.mk H
             clear H
             have p105 : 0 ≤ (x23_2 : Int) := of_decide_eq_true (by first | (with_reducible assumption) | assumption)
             have q105 : x23_2 < (((rd_T27 l0 x10_1).f1).length : Int) := of_decide_eq_true (by first | (with_reducible assumption) | assumption)
             obtain ⟨ad105, e105, hx105_0⟩ := Kd.at_int HR103_1.out x23_2 p105 q105
             cases e105
             replace hx105_0 := (HB.out.cell (World.block_lt_of_cell? w _ hx105_0)).trans hx105_0
             replace p105 := eq_true p105
             replace q105 := eq_true q105
             have hnb35 := NB102_101.out
             have hnc35 := NB101_102.out
             have hnb36 := NB102_104.out
             have hnc36 := NB104_102.out
             obtain ⟨hcz37_0, hcz37_1⟩ := blk_cells2 BK102.out
             obtain ⟨hfz37_0, hfz37_1⟩ := blk_frozens2 BK102.out
             obtain ⟨Ao38, co38, eo38⟩ := Kd.R_slice HO_103001.out
             subst eo38
             try go_wp2
             have n0_ := Aside0.mk (Kd.R_drew HO_103001.out)
             have n1_ := Aside0.mk (blk_drew BK101.out)
             have n2_ := Aside0.mk (blk_drew BK102.out)
             have n3_ := Aside0.mk (blk_drew BK104.out)
             have n4_ := Aside0.mk (below_drew1 HB.out)
             clear HO_103001
             clear BK101
             clear BK102
             clear BK104
             clear HB
             have HO_103001 := n0_
             have BK101 := n1_
             have BK102 := n2_
             have BK104 := n3_
             have HB := n4_
             clear n0_ n1_ n2_ n3_ n4_
             have p111 : 0 ≤ (x23_2 : Int) := of_decide_eq_true (by first | (with_reducible assumption) | assumption)
             have q111 : x23_2 < (x103001_2.length : Int) := of_decide_eq_true (by first | (with_reducible assumption) | assumption)
             obtain ⟨ad111, e111, hx111_0⟩ := Kd.at_int (Kd.R_reads' HO_103001.out).2.2 x23_2 p111 q111
             cases e111
             replace p111 := eq_true p111
             replace q111 := eq_true q111
             have p34 : 0 ≤ (x23_2 : Int) := of_decide_eq_true (by first | (with_reducible assumption) | assumption)
             have q34 : (x23_2 : Int) < ((x103001_2.length : Int) : Int) := of_decide_eq_true (by first | (with_reducible assumption) | assumption)
             obtain ⟨go34, co34, eo34, gb34, gl34, cl34, HG34⟩ := Kd.R_form HO_103001.out (by omega)
             (first | cases eo34 | (injection eo34 with ea_ en_ ec_; (first | subst ea_ | (injection ea_ with ea_; subst ea_)); subst ec_; clear en_))
             have GB34 := Aside0.mk gb34
             have GG34 := Aside0.mk HG34
             clear gb34 gl34 HG34
             (first | simp only [add_plain] at hx111_0 | skip)
             obtain ⟨hx34_0, hf34_0⟩ := Kd.R_celln 0 HO_103001.out (x23_2 : Int) p34 q34
             replace p34 := eq_true p34
             replace q34 := eq_true q34
             have HP40 := Kd.R_putn HO_103001.out (x23_2 : Int) ji33
             rw [← Ny112.out] at HP40
             have HQ40 := Aside0.mk HP40
             clear HP40
             refine start_ (n := 12) (S := fun w' => w'.cell? ⟨gb102, 0, none⟩ = some (.int .i64 ji7) ∧ w'.cell? ⟨gb102, 1, none⟩ = some (.slice (some ⟨go34, 0, none⟩) x103001_2.length co38) ∧ w'.cell? ⟨go34, (x23_2).toNat, none⟩ = some (.int .i64 (rd x103001_2 x23_2))) (ds := [11]) q11_0 (by kernel_rfl) rfl rfl ⟨(blk_cell BK102.out 0).trans rfl, (blk_cell BK102.out 1).trans rfl, hx111_0⟩ (fun hHeld => ?_); refine with_tabW attr_Merge.tab11 attr_Merge.bits11 (fun HT_ HW_ => ?_)
             generalize wr.drew = w39 at HO_103001 BK101 BK102 BK104 HB GG34 HQ40 hf34_0 hx111_0 hx34_0 hHeld ⊢
             refine pure_ (i := 0) (N := some 38) (v := ?_) (a' := ?_) q11_1 rfl rfl (any_of HT_.out (by kernel_rfl)) (fun _ _ _ h => h) (Or.inl ⟨by rfl, ?_⟩) ?_ ?_
             rotate_left
             ·
              intro w'
              go_simp
              with_reducible rfl
             rotate_left
             ·
              simp only [Act.put, List.setIfInBounds_toArray, List.set_cons_zero, List.set_cons_succ, i64_w, i32_w]
              rfl
             refine pure_ (i := 2) (N := some 40) (v := ?_) (a' := ?_) q11_2 rfl rfl (any_of HT_.out (by kernel_rfl)) (fun _ _ _ h => h) (Or.inl ⟨by rfl, ?_⟩) ?_ ?_
             rotate_left
             ·
              intro w'
              go_simp
              with_reducible rfl
             rotate_left
             ·
              simp only [Act.put, List.setIfInBounds_toArray, List.set_cons_zero, List.set_cons_succ, i64_w, i32_w]
              rfl
             refine pure_ (i := 3) (N := some 41) (v := ?_) (a' := ?_) q11_3 rfl rfl (any_of HT_.out (by kernel_rfl)) (fun _ _ _ h => h) (Or.inl ⟨by rfl, ?_⟩) ?_ ?_
             rotate_left
             ·
              intro w'
              go_simp
              with_reducible rfl
             rotate_left
             ·
              simp only [Act.put, List.setIfInBounds_toArray, List.set_cons_zero, List.set_cons_succ, i64_w, i32_w]
              rfl
             refine pure_ (i := 5) (N := some 43) (v := ?_) (a' := ?_) q11_4 rfl rfl (any_of HT_.out (by kernel_rfl)) (fun _ _ _ h => h) (Or.inl ⟨by rfl, ?_⟩) ?_ ?_
             rotate_left
             ·
              intro w'
              go_simp
              with_reducible rfl
             rotate_left
             ·
              simp only [Act.put, List.setIfInBounds_toArray, List.set_cons_zero, List.set_cons_succ, i64_w, i32_w]
              rfl
             refine pure_ (i := 8) (N := some 46) (v := ?_) (a' := ?_) q11_5 rfl rfl (any_of HT_.out (by kernel_rfl)) (fun _ _ _ h => h) (Or.inl ⟨by rfl, ?_⟩) ?_ ?_
             rotate_left
             ·
              intro w'
              go_simp
              with_reducible rfl
             rotate_left
             ·
              simp only [Act.put, List.setIfInBounds_toArray, List.set_cons_zero, List.set_cons_succ, i64_w, i32_w]
              rfl
             refine take_ (i := 1) (N := some 39) (v := ?_) (a' := ?_) q11_6 rfl rfl (take_ofW HT_.out HW_.out (by kernel_rfl)) (fun _ _ _ h => h) (Or.inl ⟨by rfl, ?_⟩) hHeld ?_ ?_
             rotate_left
             ·
              rintro w' ⟨s0, s1, s2⟩
              go_simp
              with_reducible rfl
             rotate_left
             ·
              simp only [Act.put, List.setIfInBounds_toArray, List.set_cons_zero, List.set_cons_succ, i64_w, i32_w]
              rfl
             refine take_ (i := 4) (N := some 42) (v := ?_) (a' := ?_) q11_7 rfl rfl (take_ofW HT_.out HW_.out (by kernel_rfl)) (fun _ _ _ h => h) (Or.inl ⟨by rfl, ?_⟩) hHeld ?_ ?_
             rotate_left
             ·
              rintro w' ⟨s0, s1, s2⟩
              go_simp
              with_reducible rfl
             rotate_left
             ·
              simp only [Act.put, List.setIfInBounds_toArray, List.set_cons_zero, List.set_cons_succ, i64_w, i32_w]
              rfl
             refine pure_ (i := 6) (N := some 44) (v := ?_) (a' := ?_) q11_8 rfl rfl (any_of HT_.out (by kernel_rfl)) (fun _ _ _ h => h) (Or.inl ⟨by rfl, ?_⟩) ?_ ?_
             rotate_left
             ·
              intro w'
              go_simp
              with_reducible rfl
             rotate_left
             ·
              simp only [Act.put, List.setIfInBounds_toArray, List.set_cons_zero, List.set_cons_succ, i64_w, i32_w]
              rfl
             refine take_ (i := 7) (N := some 45) (v := ?_) (a' := ?_) q11_9 rfl rfl (take_ofW HT_.out HW_.out (by kernel_rfl)) (fun _ _ _ h => h) (Or.inl ⟨by rfl, ?_⟩) hHeld ?_ ?_
             rotate_left
             ·
              rintro w' ⟨s0, s1, s2⟩
              go_simp
              with_reducible rfl
             rotate_left
             ·
              simp only [Act.put, List.setIfInBounds_toArray, List.set_cons_zero, List.set_cons_succ, i64_w, i32_w]
              rfl
             refine pure_ (i := 9) (N := some 47) (v := ?_) (a' := ?_) q11_10 rfl rfl (any_of HT_.out (by kernel_rfl)) (fun _ _ _ h => h) (Or.inl ⟨by rfl, ?_⟩) ?_ ?_
             rotate_left
             ·
              intro w'
              go_simp
              with_reducible rfl
             rotate_left
             ·
              simp only [Act.put, List.setIfInBounds_toArray, List.set_cons_zero, List.set_cons_succ, i64_w, i32_w]
              rfl
             refine pure_ (i := 10) (N := some 48) (v := ?_) (a' := ?_) q11_11 rfl rfl (any_of HT_.out (by kernel_rfl)) (fun _ _ _ h => h) (Or.inl ⟨by rfl, ?_⟩) ?_ ?_
             rotate_left
             ·
              intro w'
              go_simp
              with_reducible rfl
             rotate_left
             ·
              simp only [Act.put, List.setIfInBounds_toArray, List.set_cons_zero, List.set_cons_succ, i64_w, i32_w]
              rfl
             refine last_ (i := 11) (N := none) q11_12 rfl rfl (one_of HT_.out (by kernel_rfl)) (by decide) (fun K hK => ?_)
             refine skip_ (w1 := ?_) ?shw ?shN ?_ ?_
             case shw => exact rfl
             case shN => exact rfl
             rotate_left
             ·
              go_simp
              rfl
             refine hK.out _ _ ?_
             clear hK K
             refine done_ (done_of HT_.out (by kernel_rfl)) ?_
             try go_wp2
             go_roundg k2
             case measure => have := HK1.out; have := HK2.out; omega
             case rel => exact ⟨(wrap64 (x23_2 + 1)), (y112), (.slice (some ⟨go34, 0, none⟩) x103001_2.length co38), (by first | rfl | (simp; done) | (simp [*]; done)), H', ⟨by have := HK1.out; have := HK2.out; omega⟩, ⟨by (with_reducible repeat (first | apply Kd.R_alloc | apply Kd.R_drewN | apply Kd.R_drew)); exact HQ40.out⟩, ⟨by (with_reducible repeat (first | refine blk_drewN ?_ _ | refine blk_drew ?_ | refine blk_alloc ?_ _)); refine blk_far ?_ (by have h_ := Kd.R_ne HO_103001.out BK101.out (by decide); intro e_; exact h_ (by rw [e_]; rfl)) _; (with_reducible repeat (first | refine blk_drewN ?_ _ | refine blk_drew ?_ | refine blk_alloc ?_ _)); exact BK101.out⟩, ⟨by (with_reducible repeat (first | refine blk_drewN ?_ _ | refine blk_drew ?_ | refine blk_alloc ?_ _)); refine blk_far ?_ (by have h_ := Kd.R_ne HO_103001.out BK102.out (by decide); intro e_; exact h_ (by rw [e_]; rfl)) _; (with_reducible repeat (first | refine blk_drewN ?_ _ | refine blk_drew ?_ | refine blk_alloc ?_ _)); exact BK102.out⟩, ⟨by (with_reducible repeat (first | refine blk_drewN ?_ _ | refine blk_drew ?_ | refine blk_alloc ?_ _)); refine blk_far ?_ (by have h_ := Kd.R_ne HO_103001.out BK104.out (by decide); intro e_; exact h_ (by rw [e_]; rfl)) _; (with_reducible repeat (first | refine blk_drewN ?_ _ | refine blk_drew ?_ | refine blk_alloc ?_ _)); exact BK104.out⟩, ⟨gw_ HB⟩⟩
            ·
             rw [if_neg c32] at H
             exact absurd H (by simp)
          ·
           rw [if_neg c16] at H
           exact absurd H (by simp)
         ·
          rw [if_neg c15] at H
          exact absurd H (by simp)
        ·
         rw [if_neg c14] at H
         have c14b0 : decide (x23_2 < (((rd_T27 l0 x10_1).f1).length : Int)) = false := decide_eq_false c14
         clear c14
         have H' := Aside0.mk H
         clear H
         go_wp2
         go_roundg k2
         case measure => have := HK1.out; have := HK2.out; omega
         case rel => exact ⟨(wrap64 (x10_1 + 1)), (ji7), (x103001_2), (u103001), (by first | rfl | (simp; done) | (simp [*]; done)), H', ⟨by have := HK1.out; have := HK2.out; omega⟩, ⟨by (with_reducible repeat (first | apply Kd.R_alloc | apply Kd.R_drewN | apply Kd.R_drew)); exact HO_103001.out⟩, ⟨by (with_reducible repeat (first | refine blk_drewN ?_ _ | refine blk_drew ?_ | refine blk_alloc ?_ _)); exact BK101.out⟩, ⟨by (with_reducible repeat (first | refine blk_drewN ?_ _ | refine blk_drew ?_ | refine blk_alloc ?_ _)); exact BK102.out⟩, ⟨gw_ HB⟩⟩
     ·
      rw [if_neg c6] at H
      exact absurd H (by simp)
    ·
     rw [if_neg c5] at H
     exact absurd H (by simp)
   ·
    rw [if_neg c4] at H
    have c4b0 : decide (x10_1 < (l0.length : Int)) = false := decide_eq_false c4
    clear c4
    simp only [Option.some.injEq, Prod.mk.injEq] at H
    obtain ⟨rfl, rfl⟩ := H
    have hnb41 := NB102_101.out
    have hnc41 := NB101_102.out
    obtain ⟨hcz42_0, hcz42_1⟩ := blk_cells2 BK102.out
    obtain ⟨hfz42_0, hfz42_1⟩ := blk_frozens2 BK102.out
    obtain ⟨hcz43_0, hcz43_1⟩ := blk_cells2 BK101.out
    obtain ⟨hfz43_0, hfz43_1⟩ := blk_frozens2 BK101.out
    obtain ⟨Ao44, co44, eo44⟩ := Kd.R_slice HO_103001.out
    subst eo44
    go_wp2
    refine bodyPost_ret (results_cell_row rfl _ _ gb101 27 #[.int .i64 x103000_1, .slice Ao44 x103001_1.length co44] (0, 0) _ rfl (by (with_reducible repeat (first | refine blk_drewN ?_ _ | refine blk_drew ?_ | refine blk_alloc ?_ _)); refine blk_put (cs := #[.int .i64 x103000_1, .slice none 0 0]) ?_ 1 _ rfl; (with_reducible repeat (first | refine blk_drewN ?_ _ | refine blk_drew ?_ | refine blk_alloc ?_ _)); refine blk_put (cs := #[.int .i64 0, .slice none 0 0]) ?_ 0 _ rfl; (with_reducible repeat (first | refine blk_drewN ?_ _ | refine blk_drew ?_ | refine blk_alloc ?_ _)); exact BK101.out) Try.underlying27 rfl (by kernel_rfl)) rfl ?_
    exact ⟨_, by first | rfl | (simp [errW_none, errW_some] <;> rfl) | (simp [*, errW_none, errW_some] <;> rfl), by (with_reducible repeat (first | apply Kd.R_alloc | apply Kd.R_drewN | apply Kd.R_drew)); exact Kd.R_mono (Kd.R_far2 (g := gb101) (Kd.R_types HO_103001.out BK101.out (by decide)) (fun _ hk => hk.2)) (fun _ hk => trivial), gw_ HB⟩

def attr_deps_of.f (l0 : List Int) (a1 : Int) : Option (Int) := if a1 < 1 then (some 0) else (if a1 > (l0.length : Int) then (some 0) else (if 0 ≤ (wrap64 (a1 - 1)) then (if (wrap64 (a1 - 1)) < (l0.length : Int) then (some (rd l0 (wrap64 (a1 - 1)))) else (none)) else (none)))
set_option maxHeartbeats 8000000 in
set_option maxRecDepth 100000 in
theorem attr_deps_of.calls (A0 : Option Addr) (c0 : Nat) (l0 : List Int) (a1 : Int) (r : Int) (w : World) (hr0 : Kd.C (Kd.int .i64) w A0 l0.length l0) (hc0 : l0.length ≤ c0) (h : attr_deps_of.f l0 a1 = some r) :
  Calls Try.prog 23 #[.slice A0 l0.length c0, .int .i64 a1] w fun e w' => e = .returned (.int .i64 r) ∧ Drawn0 w w' := by
 have HR0 := Aside0.mk hr0
 have HC0 := Aside0.mk hc0
 clear hr0 hc0
 have H : (if a1 < 1 then (some 0) else (if a1 > (l0.length : Int) then (some 0) else (if 0 ≤ (wrap64 (a1 - 1)) then (if (wrap64 (a1 - 1)) < (l0.length : Int) then (some (rd l0 (wrap64 (a1 - 1)))) else (none)) else (none)))) = some r := h
 clear h
 by_cases c3 : a1 < 1
 ·
  rw [if_pos c3] at H
  have c3b0 : decide (a1 < 1) = true := decide_eq_true c3
  clear c3
  obtain rfl := Option.some.inj H
  go_enter Try.func23, Try.ntmps23
  go_wp2
  go_ret
  exact ⟨by first | rfl | (simp; done) | (simp [*]; done), by repeat (first | exact Drawn0.refl _ | apply Drawn0.step)⟩
 ·
  rw [if_neg c3] at H
  have c3b0 : decide (a1 < 1) = false := decide_eq_false c3
  clear c3
  by_cases c4 : a1 > (l0.length : Int)
  ·
   rw [if_pos c4] at H
   have c4b0 : decide ((l0.length : Int) < a1) = true := decide_eq_true c4
   clear c4
   obtain rfl := Option.some.inj H
   go_enter Try.func23, Try.ntmps23
   go_wp2
   go_ret
   exact ⟨by first | rfl | (simp; done) | (simp [*]; done), by repeat (first | exact Drawn0.refl _ | apply Drawn0.step)⟩
  ·
   rw [if_neg c4] at H
   have c4b0 : decide ((l0.length : Int) < a1) = false := decide_eq_false c4
   clear c4
   obtain ⟨ji5, hji5⟩ : ∃ j_ : Int, (wrap64 (a1 - 1)) = j_ := ⟨_, rfl⟩
   replace H : (if 0 ≤ (ji5) then (if (ji5) < (l0.length : Int) then (some (rd l0 (ji5))) else (none)) else (none)) = some r := by first | (rw [hji5] at H; exact H) | (simp only [hji5] at H ⊢; exact H)
   have hji5w : (IntKind.i64.wrap (a1 - 1)) = ji5 := (i64_w _).trans hji5
   by_cases c6 : 0 ≤ (ji5)
   ·
    rw [if_pos c6] at H
    have c6b0 : decide (0 ≤ (ji5)) = true := decide_eq_true c6
    clear c6
    by_cases c7 : (ji5) < (l0.length : Int)
    ·
     rw [if_pos c7] at H
     have c7b0 : decide ((ji5) < (l0.length : Int)) = true := decide_eq_true c7
     clear c7
     obtain rfl := Option.some.inj H
     have p113 : 0 ≤ ((ji5) : Int) := of_decide_eq_true (by first | (with_reducible assumption) | assumption)
     have q113 : (ji5) < (l0.length : Int) := of_decide_eq_true (by first | (with_reducible assumption) | assumption)
     obtain ⟨ad113, e113, hx113_0⟩ := Kd.at_int HR0.out (ji5) p113 q113
     cases e113
     replace p113 := eq_true p113
     replace q113 := eq_true q113
     go_enter Try.func23, Try.ntmps23
     go_wp2
     go_ret
     exact ⟨by first | rfl | (simp; done) | (simp only [← hji5] <;> (first | rfl | simp)) | (simp [*]; done), by repeat (first | exact Drawn0.refl _ | apply Drawn0.step)⟩
    ·
     rw [if_neg c7] at H
     exact absurd H (by simp)
   ·
    rw [if_neg c6] at H
    exact absurd H (by simp)

def attr_Waits.f (a0_0 : Int) (l0_1 : List Int) (a1_0 : Int) (a1_1 : Int) : Option (Bool) := if a1_1 ≥ 1 then ((attr_deps_of.f l0_1 a1_0).bind fun t116 => (some (decide (a1_1 ≤ t116)))) else (some false)
set_option maxHeartbeats 8000000 in
set_option maxRecDepth 100000 in
theorem attr_Waits.calls (a0_0 : Int) (A0_1 : Option Addr) (c0_1 : Nat) (l0_1 : List Int) (a1_0 : Int) (a1_1 : Int) (r : Bool) (w : World) (hr0_1 : Kd.C (Kd.int .i64) w A0_1 l0_1.length l0_1) (hc0_1 : l0_1.length ≤ c0_1) (h : attr_Waits.f a0_0 l0_1 a1_0 a1_1 = some r) :
  Calls Try.prog 14 #[.agg #[.int .i64 a0_0, .slice A0_1 l0_1.length c0_1], .agg #[.int .i64 a1_0, .int .i64 a1_1]] w fun e w' => e = .returned (.bool r) ∧ Below w.heap.size w w' := by
 have hu27 := Try.underlying27
 have hu33 := Try.underlying33
 have HR0_1 := Aside0.mk hr0_1
 have HC0_1 := Aside0.mk hc0_1
 clear hr0_1 hc0_1
 have HB := Aside0.mk (Below.refl w.heap.size w)
 have H : (if a1_1 ≥ 1 then ((attr_deps_of.f l0_1 a1_0).bind fun t116 => (some (decide (a1_1 ≤ t116)))) else (some false)) = some r := h
 clear h
 by_cases c3 : a1_1 ≥ 1
 ·
  rw [if_pos c3] at H
  have c3b0 : decide (1 ≤ a1_1) = true := decide_eq_true c3
  clear c3
  replace H := Option.bind_eq_some_iff.mp H
  obtain ⟨t116, A40, H⟩ := H
  replace H : (some (decide (a1_1 ≤ t116))) = some r := H
  have A4 := Aside0.mk A40
  clear A40
  obtain rfl := Option.some.inj H
  go_enter Try.func14, Try.ntmps14
  go_wp2_with (first | ((with_reducible refine gate_dst (N := 2) rfl ?_); refine box_event ?hg (N := 2) ?hd (cs := #[.int .i64 a0_0, .slice A0_1 l0_1.length c0_1]) (t := 27) ?hr ?_; (case hd => rfl); (case hg => rfl); (case hr => first | (go_simp; done) | (go_simp; rfl)); intro gb114 hg w5 hbox hb; have s_ := step_size_ (gw_ HB) hb hg; have n0_ := Aside0.mk s_.1; have n1_ := Aside0.mk (hbox); have n2_ := Aside0.mk s_.2; clear s_; have n3_ := n2_; clear HB; have HB := n0_; have BK114 := n1_; have GW114 := n2_; have GE114 := n3_; clear n0_ n1_ n2_ n3_; clear hb hbox hg) | ((with_reducible refine gate_dst (N := 3) rfl ?_); refine box_event ?hg (N := 3) ?hd (cs := #[.int .i64 a1_0, .int .i64 a1_1]) (t := 33) ?hr ?_; (case hd => rfl); (case hg => rfl); (case hr => first | (go_simp; done) | (go_simp; rfl)); intro gb115 hg w6 hbox hb; have n0_ := Aside0.mk (blk_below (g := gb114) (bk BK114) hb); have s_ := step_size_ (gw_ HB) hb hg; have n1_ := Aside0.mk s_.1; have n2_ := Aside0.mk (hbox); have n3_ := Aside0.mk s_.2; clear s_; have n4_ := n3_; have l_ := blk_lt_ (g := gb114) hg (bk BK114); have n5_ := Aside0.mk (Nat.ne_of_lt l_); have n6_ := Aside0.mk (Nat.ne_of_gt l_); clear l_; clear BK114; clear HB; have BK114 := n0_; have HB := n1_; have BK115 := n2_; have GW115 := n3_; have GE115 := n4_; have NB114_115 := n5_; have NB115_114 := n6_; clear n0_ n1_ n2_ n3_ n4_ n5_ n6_; clear hb hbox hg; have hnb7 := NB115_114.out; have hnc7 := NB114_115.out; obtain ⟨hcz8_0, hcz8_1⟩ := blk_cells2 BK115.out; obtain ⟨hfz8_0, hfz8_1⟩ := blk_frozens2 BK115.out; obtain ⟨hcz9_0, hcz9_1⟩ := blk_cells2 BK114.out; obtain ⟨hfz9_0, hfz9_1⟩ := blk_frozens2 BK114.out) | (go_at_call 23; (with_reducible refine (attr_deps_of.calls _ _ l0_1 a1_0 t116 _ ?side1 ?side2 A4.out).mono ?_); (case side1 => repeat (first | exact (Kd.C_below HR0_1.out HB.out) | (with_reducible refine Kd.C_alloc ?_ _) | (with_reducible refine Kd.C_drewN ?_ _) | (with_reducible refine Kd.C_drew ?_))); (case side2 => exact HC0_1.out); rintro e w' ⟨rfl, ⟨nd, rfl⟩⟩; (try first | exact ⟨rfl, _, World.drewN_drewN _ _ _⟩ | exact ⟨rfl, _, Eq.trans (World.drewN_drewN _ _ _) (congrArg (World.drewN _) (Nat.add_assoc _ _ _))⟩)))
  repeat (go_quiet (first | ((with_reducible refine gate_dst (N := 2) rfl ?_); refine box_event ?hg (N := 2) ?hd (cs := #[.int .i64 a0_0, .slice A0_1 l0_1.length c0_1]) (t := 27) ?hr ?_; (case hd => rfl); (case hg => rfl); (case hr => first | (go_simp; done) | (go_simp; rfl)); intro gb114 hg w5 hbox hb; have s_ := step_size_ (gw_ HB) hb hg; have n0_ := Aside0.mk s_.1; have n1_ := Aside0.mk (hbox); have n2_ := Aside0.mk s_.2; clear s_; have n3_ := n2_; clear HB; have HB := n0_; have BK114 := n1_; have GW114 := n2_; have GE114 := n3_; clear n0_ n1_ n2_ n3_; clear hb hbox hg) | ((with_reducible refine gate_dst (N := 3) rfl ?_); refine box_event ?hg (N := 3) ?hd (cs := #[.int .i64 a1_0, .int .i64 a1_1]) (t := 33) ?hr ?_; (case hd => rfl); (case hg => rfl); (case hr => first | (go_simp; done) | (go_simp; rfl)); intro gb115 hg w6 hbox hb; have n0_ := Aside0.mk (blk_below (g := gb114) (bk BK114) hb); have s_ := step_size_ (gw_ HB) hb hg; have n1_ := Aside0.mk s_.1; have n2_ := Aside0.mk (hbox); have n3_ := Aside0.mk s_.2; clear s_; have n4_ := n3_; have l_ := blk_lt_ (g := gb114) hg (bk BK114); have n5_ := Aside0.mk (Nat.ne_of_lt l_); have n6_ := Aside0.mk (Nat.ne_of_gt l_); clear l_; clear BK114; clear HB; have BK114 := n0_; have HB := n1_; have BK115 := n2_; have GW115 := n3_; have GE115 := n4_; have NB114_115 := n5_; have NB115_114 := n6_; clear n0_ n1_ n2_ n3_ n4_ n5_ n6_; clear hb hbox hg; have hnb7 := NB115_114.out; have hnc7 := NB114_115.out; obtain ⟨hcz8_0, hcz8_1⟩ := blk_cells2 BK115.out; obtain ⟨hfz8_0, hfz8_1⟩ := blk_frozens2 BK115.out; obtain ⟨hcz9_0, hcz9_1⟩ := blk_cells2 BK114.out; obtain ⟨hfz9_0, hfz9_1⟩ := blk_frozens2 BK114.out) | (go_at_call 23; (with_reducible refine (attr_deps_of.calls _ _ l0_1 a1_0 t116 _ ?side1 ?side2 A4.out).mono ?_); (case side1 => repeat (first | exact (Kd.C_below HR0_1.out HB.out) | (with_reducible refine Kd.C_alloc ?_ _) | (with_reducible refine Kd.C_drewN ?_ _) | (with_reducible refine Kd.C_drew ?_))); (case side2 => exact HC0_1.out); rintro e w' ⟨rfl, ⟨nd, rfl⟩⟩; (try first | exact ⟨rfl, _, World.drewN_drewN _ _ _⟩ | exact ⟨rfl, _, Eq.trans (World.drewN_drewN _ _ _) (congrArg (World.drewN _) (Nat.add_assoc _ _ _))⟩))); try go_wp2_with (first | ((with_reducible refine gate_dst (N := 2) rfl ?_); refine box_event ?hg (N := 2) ?hd (cs := #[.int .i64 a0_0, .slice A0_1 l0_1.length c0_1]) (t := 27) ?hr ?_; (case hd => rfl); (case hg => rfl); (case hr => first | (go_simp; done) | (go_simp; rfl)); intro gb114 hg w5 hbox hb; have s_ := step_size_ (gw_ HB) hb hg; have n0_ := Aside0.mk s_.1; have n1_ := Aside0.mk (hbox); have n2_ := Aside0.mk s_.2; clear s_; have n3_ := n2_; clear HB; have HB := n0_; have BK114 := n1_; have GW114 := n2_; have GE114 := n3_; clear n0_ n1_ n2_ n3_; clear hb hbox hg) | ((with_reducible refine gate_dst (N := 3) rfl ?_); refine box_event ?hg (N := 3) ?hd (cs := #[.int .i64 a1_0, .int .i64 a1_1]) (t := 33) ?hr ?_; (case hd => rfl); (case hg => rfl); (case hr => first | (go_simp; done) | (go_simp; rfl)); intro gb115 hg w6 hbox hb; have n0_ := Aside0.mk (blk_below (g := gb114) (bk BK114) hb); have s_ := step_size_ (gw_ HB) hb hg; have n1_ := Aside0.mk s_.1; have n2_ := Aside0.mk (hbox); have n3_ := Aside0.mk s_.2; clear s_; have n4_ := n3_; have l_ := blk_lt_ (g := gb114) hg (bk BK114); have n5_ := Aside0.mk (Nat.ne_of_lt l_); have n6_ := Aside0.mk (Nat.ne_of_gt l_); clear l_; clear BK114; clear HB; have BK114 := n0_; have HB := n1_; have BK115 := n2_; have GW115 := n3_; have GE115 := n4_; have NB114_115 := n5_; have NB115_114 := n6_; clear n0_ n1_ n2_ n3_ n4_ n5_ n6_; clear hb hbox hg; have hnb7 := NB115_114.out; have hnc7 := NB114_115.out; obtain ⟨hcz8_0, hcz8_1⟩ := blk_cells2 BK115.out; obtain ⟨hfz8_0, hfz8_1⟩ := blk_frozens2 BK115.out; obtain ⟨hcz9_0, hcz9_1⟩ := blk_cells2 BK114.out; obtain ⟨hfz9_0, hfz9_1⟩ := blk_frozens2 BK114.out) | (go_at_call 23; (with_reducible refine (attr_deps_of.calls _ _ l0_1 a1_0 t116 _ ?side1 ?side2 A4.out).mono ?_); (case side1 => repeat (first | exact (Kd.C_below HR0_1.out HB.out) | (with_reducible refine Kd.C_alloc ?_ _) | (with_reducible refine Kd.C_drewN ?_ _) | (with_reducible refine Kd.C_drew ?_))); (case side2 => exact HC0_1.out); rintro e w' ⟨rfl, ⟨nd, rfl⟩⟩; (try first | exact ⟨rfl, _, World.drewN_drewN _ _ _⟩ | exact ⟨rfl, _, Eq.trans (World.drewN_drewN _ _ _) (congrArg (World.drewN _) (Nat.add_assoc _ _ _))⟩))))
  go_ret
  exact ⟨by first | rfl | (simp [errW_none, errW_some] <;> rfl) | (simp [*, errW_none, errW_some] <;> rfl), gw_ HB⟩
 ·
  rw [if_neg c3] at H
  have c3b0 : decide (1 ≤ a1_1) = false := decide_eq_false c3
  clear c3
  obtain rfl := Option.some.inj H
  go_enter Try.func14, Try.ntmps14
  go_wp2_with (first | ((with_reducible refine gate_dst (N := 2) rfl ?_); refine box_event ?hg (N := 2) ?hd (cs := #[.int .i64 a0_0, .slice A0_1 l0_1.length c0_1]) (t := 27) ?hr ?_; (case hd => rfl); (case hg => rfl); (case hr => first | (go_simp; done) | (go_simp; rfl)); intro gb114 hg w10 hbox hb; have s_ := step_size_ (gw_ HB) hb hg; have n0_ := Aside0.mk s_.1; have n1_ := Aside0.mk (hbox); have n2_ := Aside0.mk s_.2; clear s_; have n3_ := n2_; clear HB; have HB := n0_; have BK114 := n1_; have GW114 := n2_; have GE114 := n3_; clear n0_ n1_ n2_ n3_; clear hb hbox hg) | ((with_reducible refine gate_dst (N := 3) rfl ?_); refine box_event ?hg (N := 3) ?hd (cs := #[.int .i64 a1_0, .int .i64 a1_1]) (t := 33) ?hr ?_; (case hd => rfl); (case hg => rfl); (case hr => first | (go_simp; done) | (go_simp; rfl)); intro gb115 hg w11 hbox hb; have n0_ := Aside0.mk (blk_below (g := gb114) (bk BK114) hb); have s_ := step_size_ (gw_ HB) hb hg; have n1_ := Aside0.mk s_.1; have n2_ := Aside0.mk (hbox); have n3_ := Aside0.mk s_.2; clear s_; have n4_ := n3_; have l_ := blk_lt_ (g := gb114) hg (bk BK114); have n5_ := Aside0.mk (Nat.ne_of_lt l_); have n6_ := Aside0.mk (Nat.ne_of_gt l_); clear l_; clear BK114; clear HB; have BK114 := n0_; have HB := n1_; have BK115 := n2_; have GW115 := n3_; have GE115 := n4_; have NB114_115 := n5_; have NB115_114 := n6_; clear n0_ n1_ n2_ n3_ n4_ n5_ n6_; clear hb hbox hg; have hnb12 := NB115_114.out; have hnc12 := NB114_115.out; obtain ⟨hcz13_0, hcz13_1⟩ := blk_cells2 BK115.out; have hfz13_0 := blk_frozen BK115.out 0; have hfz13_1 := blk_frozen BK115.out 1))
  repeat (go_quiet (first | ((with_reducible refine gate_dst (N := 2) rfl ?_); refine box_event ?hg (N := 2) ?hd (cs := #[.int .i64 a0_0, .slice A0_1 l0_1.length c0_1]) (t := 27) ?hr ?_; (case hd => rfl); (case hg => rfl); (case hr => first | (go_simp; done) | (go_simp; rfl)); intro gb114 hg w10 hbox hb; have s_ := step_size_ (gw_ HB) hb hg; have n0_ := Aside0.mk s_.1; have n1_ := Aside0.mk (hbox); have n2_ := Aside0.mk s_.2; clear s_; have n3_ := n2_; clear HB; have HB := n0_; have BK114 := n1_; have GW114 := n2_; have GE114 := n3_; clear n0_ n1_ n2_ n3_; clear hb hbox hg) | ((with_reducible refine gate_dst (N := 3) rfl ?_); refine box_event ?hg (N := 3) ?hd (cs := #[.int .i64 a1_0, .int .i64 a1_1]) (t := 33) ?hr ?_; (case hd => rfl); (case hg => rfl); (case hr => first | (go_simp; done) | (go_simp; rfl)); intro gb115 hg w11 hbox hb; have n0_ := Aside0.mk (blk_below (g := gb114) (bk BK114) hb); have s_ := step_size_ (gw_ HB) hb hg; have n1_ := Aside0.mk s_.1; have n2_ := Aside0.mk (hbox); have n3_ := Aside0.mk s_.2; clear s_; have n4_ := n3_; have l_ := blk_lt_ (g := gb114) hg (bk BK114); have n5_ := Aside0.mk (Nat.ne_of_lt l_); have n6_ := Aside0.mk (Nat.ne_of_gt l_); clear l_; clear BK114; clear HB; have BK114 := n0_; have HB := n1_; have BK115 := n2_; have GW115 := n3_; have GE115 := n4_; have NB114_115 := n5_; have NB115_114 := n6_; clear n0_ n1_ n2_ n3_ n4_ n5_ n6_; clear hb hbox hg; have hnb12 := NB115_114.out; have hnc12 := NB114_115.out; obtain ⟨hcz13_0, hcz13_1⟩ := blk_cells2 BK115.out; have hfz13_0 := blk_frozen BK115.out 0; have hfz13_1 := blk_frozen BK115.out 1)); try go_wp2_with (first | ((with_reducible refine gate_dst (N := 2) rfl ?_); refine box_event ?hg (N := 2) ?hd (cs := #[.int .i64 a0_0, .slice A0_1 l0_1.length c0_1]) (t := 27) ?hr ?_; (case hd => rfl); (case hg => rfl); (case hr => first | (go_simp; done) | (go_simp; rfl)); intro gb114 hg w10 hbox hb; have s_ := step_size_ (gw_ HB) hb hg; have n0_ := Aside0.mk s_.1; have n1_ := Aside0.mk (hbox); have n2_ := Aside0.mk s_.2; clear s_; have n3_ := n2_; clear HB; have HB := n0_; have BK114 := n1_; have GW114 := n2_; have GE114 := n3_; clear n0_ n1_ n2_ n3_; clear hb hbox hg) | ((with_reducible refine gate_dst (N := 3) rfl ?_); refine box_event ?hg (N := 3) ?hd (cs := #[.int .i64 a1_0, .int .i64 a1_1]) (t := 33) ?hr ?_; (case hd => rfl); (case hg => rfl); (case hr => first | (go_simp; done) | (go_simp; rfl)); intro gb115 hg w11 hbox hb; have n0_ := Aside0.mk (blk_below (g := gb114) (bk BK114) hb); have s_ := step_size_ (gw_ HB) hb hg; have n1_ := Aside0.mk s_.1; have n2_ := Aside0.mk (hbox); have n3_ := Aside0.mk s_.2; clear s_; have n4_ := n3_; have l_ := blk_lt_ (g := gb114) hg (bk BK114); have n5_ := Aside0.mk (Nat.ne_of_lt l_); have n6_ := Aside0.mk (Nat.ne_of_gt l_); clear l_; clear BK114; clear HB; have BK114 := n0_; have HB := n1_; have BK115 := n2_; have GW115 := n3_; have GE115 := n4_; have NB114_115 := n5_; have NB115_114 := n6_; clear n0_ n1_ n2_ n3_ n4_ n5_ n6_; clear hb hbox hg; have hnb12 := NB115_114.out; have hnc12 := NB114_115.out; obtain ⟨hcz13_0, hcz13_1⟩ := blk_cells2 BK115.out; have hfz13_0 := blk_frozen BK115.out 0; have hfz13_1 := blk_frozen BK115.out 1)))
  go_ret
  exact ⟨by first | rfl | (simp [errW_none, errW_some] <;> rfl) | (simp [*, errW_none, errW_some] <;> rfl), gw_ HB⟩

def colloquylaw06_awake.f (k : Nat)  : Option (Bool) := (attr_Merge.f k (([(⟨2, (([1, 0, 3] : List Int))⟩ : S27), (⟨1, (([0, 5] : List Int))⟩ : S27)] : List (S27)))).bind fun bt126 => (if bt126.1 = 2 then (if (bt126.2.length : Int) = 3 then (if 1 < (bt126.2.length : Int) then (if (rd bt126.2 1) = 5 then ((attr_Waits.f bt126.1 bt126.2 2 4).bind fun t132 => (some t132)) else (some false)) else (none)) else (some false)) else (some false))
set_option maxHeartbeats 8000000 in
set_option maxRecDepth 100000 in
theorem colloquylaw06_awake.calls (k : Nat)  (r : Bool) (w : World) (h : colloquylaw06_awake.f k  = some r) :
  Calls Try.prog 9 #[] w fun e w' => e = .returned (.bool r) ∧ Below w.heap.size w w' := by
 have hu27 := Try.underlying27
 have hu33 := Try.underlying33
 have HB := Aside0.mk (Below.refl w.heap.size w)
 have H : ((attr_Merge.f k (([(⟨2, (([1, 0, 3] : List Int))⟩ : S27), (⟨1, (([0, 5] : List Int))⟩ : S27)] : List (S27)))).bind fun bt126 => (if bt126.1 = 2 then (if (bt126.2.length : Int) = 3 then (if 1 < (bt126.2.length : Int) then (if (rd bt126.2 1) = 5 then ((attr_Waits.f bt126.1 bt126.2 2 4).bind fun t132 => (some t132)) else (some false)) else (none)) else (some false)) else (some false))) = some r := h
 clear h
 obtain ⟨y117, hy117⟩ : ∃ y_ : List Int, y_ = (([1, 0, 3] : List Int)) := ⟨_, rfl⟩
 replace H : ((attr_Merge.f k (([(⟨2, y117⟩ : S27), (⟨1, (([0, 5] : List Int))⟩ : S27)] : List (S27)))).bind fun bt126 => (if bt126.1 = 2 then (if (bt126.2.length : Int) = 3 then (if 1 < (bt126.2.length : Int) then (if (rd bt126.2 1) = 5 then ((attr_Waits.f bt126.1 bt126.2 2 4).bind fun t132 => (some t132)) else (some false)) else (none)) else (some false)) else (some false))) = some r := by first | (rw [hy117]; with_reducible exact H) | (have H2_ := (Option.bind_some _ _).symm.trans H; rw [hy117]; with_reducible exact H2_) | (have H2_ := (Option.bind_some _ _).symm.trans H; with_reducible exact H2_) | with_reducible exact H | (rw [hy117]; exact H) | exact H
 have Ny117 := Aside0.mk hy117
 clear hy117
 obtain ⟨y120, hy120⟩ : ∃ y_ : List Int, y_ = (([0, 5] : List Int)) := ⟨_, rfl⟩
 replace H : ((attr_Merge.f k (([(⟨2, y117⟩ : S27), (⟨1, y120⟩ : S27)] : List (S27)))).bind fun bt126 => (if bt126.1 = 2 then (if (bt126.2.length : Int) = 3 then (if 1 < (bt126.2.length : Int) then (if (rd bt126.2 1) = 5 then ((attr_Waits.f bt126.1 bt126.2 2 4).bind fun t132 => (some t132)) else (some false)) else (none)) else (some false)) else (some false))) = some r := by first | (rw [hy120]; with_reducible exact H) | (have H2_ := (Option.bind_some _ _).symm.trans H; rw [hy120]; with_reducible exact H2_) | (have H2_ := (Option.bind_some _ _).symm.trans H; with_reducible exact H2_) | with_reducible exact H | (rw [hy120]; exact H) | exact H
 have Ny120 := Aside0.mk hy120
 clear hy120
 obtain ⟨y123, hy123⟩ : ∃ y_ : List (S27), y_ = (([(⟨2, y117⟩ : S27), (⟨1, y120⟩ : S27)] : List (S27))) := ⟨_, rfl⟩
 replace H : ((attr_Merge.f k y123).bind fun bt126 => (if bt126.1 = 2 then (if (bt126.2.length : Int) = 3 then (if 1 < (bt126.2.length : Int) then (if (rd bt126.2 1) = 5 then ((attr_Waits.f bt126.1 bt126.2 2 4).bind fun t132 => (some t132)) else (some false)) else (none)) else (some false)) else (some false))) = some r := by first | (rw [hy123]; with_reducible exact H) | (have H2_ := (Option.bind_some _ _).symm.trans H; rw [hy123]; with_reducible exact H2_) | (have H2_ := (Option.bind_some _ _).symm.trans H; with_reducible exact H2_) | with_reducible exact H | (rw [hy123]; exact H) | exact H
 have Ny123 := Aside0.mk hy123
 clear hy123
 replace H := Option.bind_eq_some_iff.mp H
 obtain ⟨⟨t126, t127⟩, A10, H⟩ := H
 replace H : (if t126 = 2 then (if (t127.length : Int) = 3 then (if 1 < (t127.length : Int) then (if (rd t127 1) = 5 then ((attr_Waits.f t126 t127 2 4).bind fun t132 => (some t132)) else (some false)) else (none)) else (some false)) else (some false)) = some r := H
 have A1 := Aside0.mk A10
 clear A10
 by_cases c2 : t126 = 2
 ·
  rw [if_pos c2] at H
  have c2b0 : (t126 == 2) = true := beq_iff_eq.mpr c2
  have c2b1 : (t126 != 2) = false := bne_eq_false_iff_eq.mpr c2
  clear c2
  by_cases c3 : (t127.length : Int) = 3
  ·
   rw [if_pos c3] at H
   have c3b0 : ((t127.length : Int) == 3) = true := beq_iff_eq.mpr c3
   have c3b1 : ((t127.length : Int) != 3) = false := bne_eq_false_iff_eq.mpr c3
   clear c3
   by_cases c4 : 1 < (t127.length : Int)
   ·
    rw [if_pos c4] at H
    have c4b0 : decide (1 < (t127.length : Int)) = true := decide_eq_true c4
    have c4b1 : decide (1 < t127.length) = true := decide_eq_true (by omega)
    clear c4
    by_cases c5 : (rd t127 1) = 5
    ·
     rw [if_pos c5] at H
     have c5b0 : ((rd t127 1) == 5) = true := beq_iff_eq.mpr c5
     have c5b1 : ((rd t127 1) != 5) = false := bne_eq_false_iff_eq.mpr c5
     clear c5
     replace H := Option.bind_eq_some_iff.mp H
     obtain ⟨t132, A60, H⟩ := H
     replace H : (some t132) = some r := H
     have A6 := Aside0.mk A60
     clear A60
     obtain rfl := Option.some.inj H
     go_enter Try.func9, Try.ntmps9
     go_wp2_with (first | ((with_reducible refine gate_dst (N := 2) rfl ?_); (try (refine gate_guard (by rfl) ?_; dsimp only)); refine Kd.R_lit (Kd.int .i64) _ 3 ?hg (N := 2) ?hd (xs := ([1, 0, 3] : List Int)) (inner := [.int .i64 1, .int .i64 0, .int .i64 3]) (ok := fun _ => True) (okp := fun _ => True) ?hr ?hp (fun _ hk => hk) trivial (Below.refl _ _) (Nat.le_refl _) (by simp) ?_; (case hd => rfl); (case hg => rfl); (case hr => first | (go_simp; done) | (go_simp; rfl)); (case hp => exact (Reps.one (show Kd.M (Kd.int .i64) _ _ _ 1 [.int .i64 1] from rfl) (Reps.one (show Kd.M (Kd.int .i64) _ _ _ 0 [.int .i64 0] from rfl) (Reps.one (show Kd.M (Kd.int .i64) _ _ _ 3 [.int .i64 3] from rfl) (Reps.none _ _))))); intro v118 w7 ho8 hb hg_ hnew_; clear hg_ hnew_; (first | rw [← Ny117.out] at ho8 | (simp only [Int.reduceToNat] at ho8; rw [← Ny117.out] at ho8)); have n0_ := Aside0.mk (Kd.R_lower ho8 (below_size (gw_ HB))); have n1_ := Aside0.mk (below_step (gw_ HB) hb); clear HB; have HO119 := n0_; have HB := n1_; clear n0_ n1_; clear hb ho8; obtain ⟨Ao9, co9, eo9⟩ := Kd.R_slice HO119.out; subst eo9) | ((with_reducible refine gate_dst (N := 4) rfl ?_); (try (refine gate_guard (by rfl) ?_; dsimp only)); refine Kd.R_lit (Kd.int .i64) _ 3 ?hg (N := 4) ?hd (xs := ([0, 5] : List Int)) (inner := [.int .i64 0, .int .i64 5]) (ok := fun _ => True) (okp := fun _ => True) ?hr ?hp (fun _ hk => hk) trivial (Below.refl _ _) (Nat.le_refl _) (by simp) ?_; (case hd => rfl); (case hg => rfl); (case hr => first | (go_simp; done) | (go_simp; rfl)); (case hp => exact (Reps.one (show Kd.M (Kd.int .i64) _ _ _ 0 [.int .i64 0] from rfl) (Reps.one (show Kd.M (Kd.int .i64) _ _ _ 5 [.int .i64 5] from rfl) (Reps.none _ _)))); intro v121 w10 ho11 hb hg_ hnew_; clear hg_ hnew_; (first | rw [← Ny120.out] at ho11 | (simp only [Int.reduceToNat] at ho11; rw [← Ny120.out] at ho11)); have n0_ := Aside0.mk (Kd.R_elder' (Kd.rk HO119) (Kd.R_base ho11) hb); have n1_ := Aside0.mk (Kd.R_lower (Kd.R_new' ho11 (Kd.R_lt (Kd.rk HO119))) (below_size (gw_ HB))); have n2_ := Aside0.mk (below_step (gw_ HB) hb); clear HO119; clear HB; have HO119 := n0_; have HO122 := n1_; have HB := n2_; clear n0_ n1_ n2_; clear hb ho11; obtain ⟨Ao12, co12, eo12⟩ := Kd.R_slice HO122.out; subst eo12) | ((with_reducible refine gate_dst (N := 6) rfl ?_); (try (refine gate_guard (by rfl) ?_; dsimp only)); refine Kd.N_lit k27 _ 27 ?hg (N' := 6) ?hd (xs := ([(⟨2, y117⟩ : S27), (⟨1, y120⟩ : S27)] : List (S27))) (inner := [.int .i64 2, .slice Ao9 y117.length co9, .int .i64 1, .slice Ao12 y120.length co12]) (ok := (fun _ => True)) (okp := (fun _ => True)) ?hr ?hp (fun _ hk => hk) ((show ∀ k_, w10.heap.size ≤ k_ → (fun _ => True) k_ from fun k_ hk => trivial) _ (Nat.le_refl _)) (Below.refl _ _) (Nat.le_refl _) (by simp) ?_; (case hd => rfl); (case hg => rfl); (case hr => first | (go_simp; done) | (go_simp; rfl)); (case hp => exact (Reps.c2 (show Kd.FK k27 _ _ (⟨2, y117⟩ : S27) [.int .i64 2, .slice Ao9 y117.length co9] from (k27_mkF _ _ (⟨2, y117⟩ : S27) (Kd.R_reads' (Kd.R_mono (ok' := (fun _ => True)) (HO119.out) (fun k_ hk => trivial))).2.1 (Kd.R_F (Kd.R_mono (ok' := (fun _ => True)) (HO119.out) (fun k_ hk => trivial))))) (Reps.c2 (show Kd.FK k27 _ _ (⟨1, y120⟩ : S27) [.int .i64 1, .slice Ao12 y120.length co12] from (k27_mkF _ _ (⟨1, y120⟩ : S27) (Kd.R_reads' (Kd.R_mono (ok' := (fun _ => True)) (HO122.out) (fun k_ hk => trivial))).2.1 (Kd.R_F (Kd.R_mono (ok' := (fun _ => True)) (HO122.out) (fun k_ hk => trivial))))) (Reps.none _ _)))); intro v124 w13 ho14 hb hg_ hnew_; clear hg_ hnew_; (first | rw [← Ny123.out] at ho14 | (simp only [Int.reduceToNat] at ho14; rw [← Ny123.out] at ho14)); have n0_ := Aside0.mk (Kd.N_lower ho14 (below_size (gw_ HB))); have n1_ := Aside0.mk (below_step (gw_ HB) hb); clear HB; clear HO119; clear HO122; have HO125 := n0_; have HB := n1_; clear n0_ n1_; clear hb ho14; obtain ⟨Ao15, co15, eo15⟩ := Kd.N_slice HO125.out; subst eo15) | ((with_reducible refine gate_callee (f := 11) rfl ?_); refine goesL_ (some 7) rfl rfl Try.func11 (by kernel_rfl) rfl #[.slice Ao15 y123.length co15] rfl (by (try simp only [List.map_toArray, List.map_cons, List.map_nil]); first | done | rfl | (simp only [List.length_drop, List.length_take]; rfl)) ?_; (with_reducible refine (attr_Merge.calls k _ _ y123 t126 t127 _ ?side1 ?side2 A1.out).mono ?_); (case side1 => repeat (first | exact (Kd.N_reads' HO125.out).2.2 | (with_reducible refine Kd.C_alloc ?_ _) | (with_reducible refine Kd.C_drewN ?_ _) | (with_reducible refine Kd.C_drew ?_))); (case side2 => exact (Kd.N_reads' HO125.out).2.1); rintro e w16 ⟨v128, rfl, ho0, hb⟩; refine ⟨_, rfl, ?_⟩; have n0_ := Aside0.mk (Kd.N_elder' (Kd.nk HO125) (Kd.R_base ho0) hb); have n1_ := Aside0.mk (Kd.R_lower ho0 (below_size (gw_ HB))); have n2_ := Aside0.mk (below_step (gw_ HB) hb); clear HO125; clear HB; have HO125 := n0_; have HO129 := n1_; have HB := n2_; clear n0_ n1_ n2_; (try clear hb); (try clear hb2); (try clear hk); (try clear hi); (try clear ho0)) | ((with_reducible refine gate_dst (N := 1) rfl ?_); (try (refine gate_guard (by rfl) ?_; dsimp only)); refine box_event ?hg (N := 1) ?hd (cs := #[.int .i64 0, .slice none 0 0]) (t := 27) ?hr ?_; (case hd => rfl); (case hg => rfl); (case hr => first | (go_simp; done) | (go_simp; rfl)); intro gb130 hg w17 hbox hb; have n0_ := Aside0.mk (Kd.N_below (Kd.N_elderB (Kd.nk HO125) gb130 (Nat.le_of_eq hg.symm)) hb); have n1_ := Aside0.mk (Kd.R_below (Kd.rk HO129) hb); have s_ := step_size_ (gw_ HB) hb hg; have n2_ := Aside0.mk s_.1; have n3_ := Aside0.mk (hbox); have n4_ := Aside0.mk s_.2; clear s_; have n5_ := n4_; clear HO125; clear HO129; clear HB; have HO125 := n0_; have HO129 := n1_; have HB := n2_; have BK130 := n3_; have GW130 := n4_; have GE130 := n5_; clear n0_ n1_ n2_ n3_ n4_ n5_; clear hb hbox hg; obtain ⟨hcz18_0, hcz18_1⟩ := blk_cells2 BK130.out; obtain ⟨hfz18_0, hfz18_1⟩ := blk_frozens2 BK130.out; obtain ⟨Ao19, co19, eo19⟩ := Kd.R_slice HO129.out; subst eo19; have p131 : 0 ≤ (1 : Int) := (by omega); have q131 : 1 < (t127.length : Int) := of_decide_eq_true (by first | (with_reducible assumption) | assumption); obtain ⟨ad131, e131, hx131_0⟩ := Kd.at_int (Kd.R_reads' HO129.out).2.2 1 p131 q131; cases e131; (try simp only [show (1 : Int).toNat = 1 from rfl, Nat.reduceMul, Nat.reduceEqDiff, Go.Addr.add, ↓reduceIte] at hx131_0); have qi131 : (1 < t127.length) = True := eq_true (by omega); (try rw [show ((1 : Int)).toNat = 1 from rfl] at hx131_0); have hn131_0 : ad131.block ≠ gb130 := Kd.own_blk (Kd.R_ne HO129.out BK130.out (by decide)); have hn131_1 : ad131.block ≠ gb130 := Kd.own_blk (Kd.R_ne HO129.out BK130.out (by decide)); replace hx131_0 := (cell_far (p := ⟨gb130, 0, none⟩) (by first | (rw [add_block]; exact hn131_0) | (show (Addr.add _ _).block ≠ _; rw [add_block]; exact hn131_0) | exact hn131_0) (.int .i64 t126)).trans hx131_0; replace hx131_0 := (cell_far (p := ⟨gb130, 1, none⟩) (by first | (rw [add_block]; exact hn131_1) | (show (Addr.add _ _).block ≠ _; rw [add_block]; exact hn131_1) | exact hn131_1) (.slice (some ad131) t127.length co19)).trans hx131_0; clear hn131_0; clear hn131_1; replace p131 := eq_true p131; replace q131 := eq_true q131) | (go_at_call 14; (with_reducible refine (attr_Waits.calls t126 _ _ t127 2 4 t132 _ ?side1 ?side2 A6.out).mono ?_); (case side1 => refine (Kd.R_reads' (e := 3) (base := w.heap.size) (ok := fun k_ => True) (n := t127.length) (c := co19) ?_).2.2; exact (by (with_reducible repeat (first | apply Kd.R_alloc | apply Kd.R_drewN | apply Kd.R_drew)); exact (Kd.R_mono (Kd.R_far2 (g := gb130) (Kd.R_types HO129.out BK130.out (by decide)) (fun _ hk => hk.2)) (fun _ h_ => h_.1)))); (case side2 => exact (Kd.R_reads' HO129.out).2.1); rintro e w20 ⟨rfl, hb⟩; have n0_ := Aside0.mk (Kd.N_below (by (with_reducible repeat (first | apply Kd.N_alloc | apply Kd.N_drewN | apply Kd.N_drew)); exact (Kd.N_mono (Kd.N_far (p := ⟨gb130, 1, none⟩) (Kd.N_far (p := ⟨gb130, 0, none⟩) (Kd.N_mono HO125.out (fun k_ hk => (⟨hk, hk.2⟩ : _ ∧ k_ ≠ gb130))) (fun _ hk => hk.2) (.int .i64 t126)) (fun _ hk => hk.2) (.slice (some ad131) t127.length co19)) (fun _ h_ => h_.1))) hb); have n1_ := Aside0.mk (Kd.R_below (by (with_reducible repeat (first | apply Kd.R_alloc | apply Kd.R_drewN | apply Kd.R_drew)); exact (Kd.R_mono (Kd.R_far2 (g := gb130) (Kd.R_types HO129.out BK130.out (by decide)) (fun _ hk => hk.2)) (fun _ h_ => h_.1))) hb); have n2_ := Aside0.mk (blk_below (g := gb130) (o := .cells #[.int .i64 t126, .slice (some ad131) t127.length co19] 27 (0, 0)) (by (with_reducible repeat (first | refine blk_drewN ?_ _ | refine blk_drew ?_ | refine blk_alloc ?_ _)); refine blk_put (cs := #[.int .i64 t126, .slice none 0 0]) ?_ 1 _ rfl; (with_reducible repeat (first | refine blk_drewN ?_ _ | refine blk_drew ?_ | refine blk_alloc ?_ _)); refine blk_put (cs := #[.int .i64 0, .slice none 0 0]) ?_ 0 _ rfl; (with_reducible repeat (first | refine blk_drewN ?_ _ | refine blk_drew ?_ | refine blk_alloc ?_ _)); exact BK130.out) hb); have n3_ := Aside0.mk (below_step (gw_ HB) hb); clear HO125; clear HO129; clear BK130; clear HB; have HO125 := n0_; have HO129 := n1_; have BK130 := n2_; have HB := n3_; clear n0_ n1_ n2_ n3_; (try clear hb); (try clear hb2); (try clear hk); (try clear hi)))
     go_ret
     exact ⟨by first | rfl | (simp [errW_none, errW_some] <;> rfl) | (simp [*, errW_none, errW_some] <;> rfl), gw_ HB⟩
    ·
     rw [if_neg c5] at H
     have c5b0 : ((rd t127 1) == 5) = false := beq_eq_false_iff_ne.mpr c5
     have c5b1 : ((rd t127 1) != 5) = true := bne_iff_ne.mpr c5
     obtain rfl := Option.some.inj H
     go_enter Try.func9, Try.ntmps9
     go_wp2_with (first | ((with_reducible refine gate_dst (N := 2) rfl ?_); (try (refine gate_guard (by rfl) ?_; dsimp only)); refine Kd.R_lit (Kd.int .i64) _ 3 ?hg (N := 2) ?hd (xs := ([1, 0, 3] : List Int)) (inner := [.int .i64 1, .int .i64 0, .int .i64 3]) (ok := fun _ => True) (okp := fun _ => True) ?hr ?hp (fun _ hk => hk) trivial (Below.refl _ _) (Nat.le_refl _) (by simp) ?_; (case hd => rfl); (case hg => rfl); (case hr => first | (go_simp; done) | (go_simp; rfl)); (case hp => exact (Reps.one (show Kd.M (Kd.int .i64) _ _ _ 1 [.int .i64 1] from rfl) (Reps.one (show Kd.M (Kd.int .i64) _ _ _ 0 [.int .i64 0] from rfl) (Reps.one (show Kd.M (Kd.int .i64) _ _ _ 3 [.int .i64 3] from rfl) (Reps.none _ _))))); intro v118 w21 ho22 hb hg_ hnew_; clear hg_ hnew_; (first | rw [← Ny117.out] at ho22 | (simp only [Int.reduceToNat] at ho22; rw [← Ny117.out] at ho22)); have n0_ := Aside0.mk (Kd.R_lower ho22 (below_size (gw_ HB))); have n1_ := Aside0.mk (below_step (gw_ HB) hb); clear HB; have HO119 := n0_; have HB := n1_; clear n0_ n1_; clear hb ho22; obtain ⟨Ao23, co23, eo23⟩ := Kd.R_slice HO119.out; subst eo23) | ((with_reducible refine gate_dst (N := 4) rfl ?_); (try (refine gate_guard (by rfl) ?_; dsimp only)); refine Kd.R_lit (Kd.int .i64) _ 3 ?hg (N := 4) ?hd (xs := ([0, 5] : List Int)) (inner := [.int .i64 0, .int .i64 5]) (ok := fun _ => True) (okp := fun _ => True) ?hr ?hp (fun _ hk => hk) trivial (Below.refl _ _) (Nat.le_refl _) (by simp) ?_; (case hd => rfl); (case hg => rfl); (case hr => first | (go_simp; done) | (go_simp; rfl)); (case hp => exact (Reps.one (show Kd.M (Kd.int .i64) _ _ _ 0 [.int .i64 0] from rfl) (Reps.one (show Kd.M (Kd.int .i64) _ _ _ 5 [.int .i64 5] from rfl) (Reps.none _ _)))); intro v121 w24 ho25 hb hg_ hnew_; clear hg_ hnew_; (first | rw [← Ny120.out] at ho25 | (simp only [Int.reduceToNat] at ho25; rw [← Ny120.out] at ho25)); have n0_ := Aside0.mk (Kd.R_elder' (Kd.rk HO119) (Kd.R_base ho25) hb); have n1_ := Aside0.mk (Kd.R_lower (Kd.R_new' ho25 (Kd.R_lt (Kd.rk HO119))) (below_size (gw_ HB))); have n2_ := Aside0.mk (below_step (gw_ HB) hb); clear HO119; clear HB; have HO119 := n0_; have HO122 := n1_; have HB := n2_; clear n0_ n1_ n2_; clear hb ho25; obtain ⟨Ao26, co26, eo26⟩ := Kd.R_slice HO122.out; subst eo26) | ((with_reducible refine gate_dst (N := 6) rfl ?_); (try (refine gate_guard (by rfl) ?_; dsimp only)); refine Kd.N_lit k27 _ 27 ?hg (N' := 6) ?hd (xs := ([(⟨2, y117⟩ : S27), (⟨1, y120⟩ : S27)] : List (S27))) (inner := [.int .i64 2, .slice Ao23 y117.length co23, .int .i64 1, .slice Ao26 y120.length co26]) (ok := (fun _ => True)) (okp := (fun _ => True)) ?hr ?hp (fun _ hk => hk) ((show ∀ k_, w24.heap.size ≤ k_ → (fun _ => True) k_ from fun k_ hk => trivial) _ (Nat.le_refl _)) (Below.refl _ _) (Nat.le_refl _) (by simp) ?_; (case hd => rfl); (case hg => rfl); (case hr => first | (go_simp; done) | (go_simp; rfl)); (case hp => exact (Reps.c2 (show Kd.FK k27 _ _ (⟨2, y117⟩ : S27) [.int .i64 2, .slice Ao23 y117.length co23] from (k27_mkF _ _ (⟨2, y117⟩ : S27) (Kd.R_reads' (Kd.R_mono (ok' := (fun _ => True)) (HO119.out) (fun k_ hk => trivial))).2.1 (Kd.R_F (Kd.R_mono (ok' := (fun _ => True)) (HO119.out) (fun k_ hk => trivial))))) (Reps.c2 (show Kd.FK k27 _ _ (⟨1, y120⟩ : S27) [.int .i64 1, .slice Ao26 y120.length co26] from (k27_mkF _ _ (⟨1, y120⟩ : S27) (Kd.R_reads' (Kd.R_mono (ok' := (fun _ => True)) (HO122.out) (fun k_ hk => trivial))).2.1 (Kd.R_F (Kd.R_mono (ok' := (fun _ => True)) (HO122.out) (fun k_ hk => trivial))))) (Reps.none _ _)))); intro v124 w27 ho28 hb hg_ hnew_; clear hg_ hnew_; (first | rw [← Ny123.out] at ho28 | (simp only [Int.reduceToNat] at ho28; rw [← Ny123.out] at ho28)); have n0_ := Aside0.mk (Kd.N_lower ho28 (below_size (gw_ HB))); have n1_ := Aside0.mk (below_step (gw_ HB) hb); clear HB; clear HO119; clear HO122; have HO125 := n0_; have HB := n1_; clear n0_ n1_; clear hb ho28; obtain ⟨Ao29, co29, eo29⟩ := Kd.N_slice HO125.out; subst eo29) | ((with_reducible refine gate_callee (f := 11) rfl ?_); refine goesL_ (some 7) rfl rfl Try.func11 (by kernel_rfl) rfl #[.slice Ao29 y123.length co29] rfl (by (try simp only [List.map_toArray, List.map_cons, List.map_nil]); first | done | rfl | (simp only [List.length_drop, List.length_take]; rfl)) ?_; (with_reducible refine (attr_Merge.calls k _ _ y123 t126 t127 _ ?side1 ?side2 A1.out).mono ?_); (case side1 => repeat (first | exact (Kd.N_reads' HO125.out).2.2 | (with_reducible refine Kd.C_alloc ?_ _) | (with_reducible refine Kd.C_drewN ?_ _) | (with_reducible refine Kd.C_drew ?_))); (case side2 => exact (Kd.N_reads' HO125.out).2.1); rintro e w30 ⟨v128, rfl, ho0, hb⟩; refine ⟨_, rfl, ?_⟩; have n0_ := Aside0.mk (Kd.N_elder' (Kd.nk HO125) (Kd.R_base ho0) hb); have n1_ := Aside0.mk (Kd.R_lower ho0 (below_size (gw_ HB))); have n2_ := Aside0.mk (below_step (gw_ HB) hb); clear HO125; clear HB; have HO125 := n0_; have HO129 := n1_; have HB := n2_; clear n0_ n1_ n2_; (try clear hb); (try clear hb2); (try clear hk); (try clear hi); (try clear ho0)) | ((with_reducible refine gate_dst (N := 1) rfl ?_); (try (refine gate_guard (by rfl) ?_; dsimp only)); refine box_event ?hg (N := 1) ?hd (cs := #[.int .i64 0, .slice none 0 0]) (t := 27) ?hr ?_; (case hd => rfl); (case hg => rfl); (case hr => first | (go_simp; done) | (go_simp; rfl)); intro gb130 hg w31 hbox hb; have n0_ := Aside0.mk (Kd.N_below (Kd.N_elderB (Kd.nk HO125) gb130 (Nat.le_of_eq hg.symm)) hb); have n1_ := Aside0.mk (Kd.R_below (Kd.rk HO129) hb); have s_ := step_size_ (gw_ HB) hb hg; have n2_ := Aside0.mk s_.1; have n3_ := Aside0.mk (hbox); have n4_ := Aside0.mk s_.2; clear s_; have n5_ := n4_; clear HO125; clear HO129; clear HB; have HO125 := n0_; have HO129 := n1_; have HB := n2_; have BK130 := n3_; have GW130 := n4_; have GE130 := n5_; clear n0_ n1_ n2_ n3_ n4_ n5_; clear hb hbox hg; obtain ⟨hcz32_0, hcz32_1⟩ := blk_cells2 BK130.out; obtain ⟨hfz32_0, hfz32_1⟩ := blk_frozens2 BK130.out; obtain ⟨Ao33, co33, eo33⟩ := Kd.R_slice HO129.out; subst eo33; have p131 : 0 ≤ (1 : Int) := (by omega); have q131 : 1 < (t127.length : Int) := of_decide_eq_true (by first | (with_reducible assumption) | assumption); obtain ⟨ad131, e131, hx131_0⟩ := Kd.at_int (Kd.R_reads' HO129.out).2.2 1 p131 q131; cases e131; (try simp only [show (1 : Int).toNat = 1 from rfl, Nat.reduceMul, Nat.reduceEqDiff, Go.Addr.add, ↓reduceIte] at hx131_0); have qi131 : (1 < t127.length) = True := eq_true (by omega); (try rw [show ((1 : Int)).toNat = 1 from rfl] at hx131_0); have hn131_0 : ad131.block ≠ gb130 := Kd.own_blk (Kd.R_ne HO129.out BK130.out (by decide)); have hn131_1 : ad131.block ≠ gb130 := Kd.own_blk (Kd.R_ne HO129.out BK130.out (by decide)); replace hx131_0 := (cell_far (p := ⟨gb130, 0, none⟩) (by first | (rw [add_block]; exact hn131_0) | (show (Addr.add _ _).block ≠ _; rw [add_block]; exact hn131_0) | exact hn131_0) (.int .i64 t126)).trans hx131_0; replace hx131_0 := (cell_far (p := ⟨gb130, 1, none⟩) (by first | (rw [add_block]; exact hn131_1) | (show (Addr.add _ _).block ≠ _; rw [add_block]; exact hn131_1) | exact hn131_1) (.slice (some ad131) t127.length co33)).trans hx131_0; clear hn131_0; clear hn131_1; replace p131 := eq_true p131; replace q131 := eq_true q131))
     go_ret
     exact ⟨by first | rfl | (simp [errW_none, errW_some] <;> rfl) | (simp [*, errW_none, errW_some] <;> rfl), gw_ HB⟩
   ·
    rw [if_neg c4] at H
    exact absurd H (by simp)
  ·
   rw [if_neg c3] at H
   have c3b0 : ((t127.length : Int) == 3) = false := beq_eq_false_iff_ne.mpr c3
   have c3b1 : ((t127.length : Int) != 3) = true := bne_iff_ne.mpr c3
   obtain rfl := Option.some.inj H
   go_enter Try.func9, Try.ntmps9
   go_wp2_with (first | ((with_reducible refine gate_dst (N := 2) rfl ?_); (try (refine gate_guard (by rfl) ?_; dsimp only)); refine Kd.R_lit (Kd.int .i64) _ 3 ?hg (N := 2) ?hd (xs := ([1, 0, 3] : List Int)) (inner := [.int .i64 1, .int .i64 0, .int .i64 3]) (ok := fun _ => True) (okp := fun _ => True) ?hr ?hp (fun _ hk => hk) trivial (Below.refl _ _) (Nat.le_refl _) (by simp) ?_; (case hd => rfl); (case hg => rfl); (case hr => first | (go_simp; done) | (go_simp; rfl)); (case hp => exact (Reps.one (show Kd.M (Kd.int .i64) _ _ _ 1 [.int .i64 1] from rfl) (Reps.one (show Kd.M (Kd.int .i64) _ _ _ 0 [.int .i64 0] from rfl) (Reps.one (show Kd.M (Kd.int .i64) _ _ _ 3 [.int .i64 3] from rfl) (Reps.none _ _))))); intro v118 w34 ho35 hb hg_ hnew_; clear hg_ hnew_; (first | rw [← Ny117.out] at ho35 | (simp only [Int.reduceToNat] at ho35; rw [← Ny117.out] at ho35)); have n0_ := Aside0.mk (Kd.R_lower ho35 (below_size (gw_ HB))); have n1_ := Aside0.mk (below_step (gw_ HB) hb); clear HB; have HO119 := n0_; have HB := n1_; clear n0_ n1_; clear hb ho35; obtain ⟨Ao36, co36, eo36⟩ := Kd.R_slice HO119.out; subst eo36) | ((with_reducible refine gate_dst (N := 4) rfl ?_); (try (refine gate_guard (by rfl) ?_; dsimp only)); refine Kd.R_lit (Kd.int .i64) _ 3 ?hg (N := 4) ?hd (xs := ([0, 5] : List Int)) (inner := [.int .i64 0, .int .i64 5]) (ok := fun _ => True) (okp := fun _ => True) ?hr ?hp (fun _ hk => hk) trivial (Below.refl _ _) (Nat.le_refl _) (by simp) ?_; (case hd => rfl); (case hg => rfl); (case hr => first | (go_simp; done) | (go_simp; rfl)); (case hp => exact (Reps.one (show Kd.M (Kd.int .i64) _ _ _ 0 [.int .i64 0] from rfl) (Reps.one (show Kd.M (Kd.int .i64) _ _ _ 5 [.int .i64 5] from rfl) (Reps.none _ _)))); intro v121 w37 ho38 hb hg_ hnew_; clear hg_ hnew_; (first | rw [← Ny120.out] at ho38 | (simp only [Int.reduceToNat] at ho38; rw [← Ny120.out] at ho38)); have n0_ := Aside0.mk (Kd.R_elder' (Kd.rk HO119) (Kd.R_base ho38) hb); have n1_ := Aside0.mk (Kd.R_lower (Kd.R_new' ho38 (Kd.R_lt (Kd.rk HO119))) (below_size (gw_ HB))); have n2_ := Aside0.mk (below_step (gw_ HB) hb); clear HO119; clear HB; have HO119 := n0_; have HO122 := n1_; have HB := n2_; clear n0_ n1_ n2_; clear hb ho38; obtain ⟨Ao39, co39, eo39⟩ := Kd.R_slice HO122.out; subst eo39) | ((with_reducible refine gate_dst (N := 6) rfl ?_); (try (refine gate_guard (by rfl) ?_; dsimp only)); refine Kd.N_lit k27 _ 27 ?hg (N' := 6) ?hd (xs := ([(⟨2, y117⟩ : S27), (⟨1, y120⟩ : S27)] : List (S27))) (inner := [.int .i64 2, .slice Ao36 y117.length co36, .int .i64 1, .slice Ao39 y120.length co39]) (ok := (fun _ => True)) (okp := (fun _ => True)) ?hr ?hp (fun _ hk => hk) ((show ∀ k_, w37.heap.size ≤ k_ → (fun _ => True) k_ from fun k_ hk => trivial) _ (Nat.le_refl _)) (Below.refl _ _) (Nat.le_refl _) (by simp) ?_; (case hd => rfl); (case hg => rfl); (case hr => first | (go_simp; done) | (go_simp; rfl)); (case hp => exact (Reps.c2 (show Kd.FK k27 _ _ (⟨2, y117⟩ : S27) [.int .i64 2, .slice Ao36 y117.length co36] from (k27_mkF _ _ (⟨2, y117⟩ : S27) (Kd.R_reads' (Kd.R_mono (ok' := (fun _ => True)) (HO119.out) (fun k_ hk => trivial))).2.1 (Kd.R_F (Kd.R_mono (ok' := (fun _ => True)) (HO119.out) (fun k_ hk => trivial))))) (Reps.c2 (show Kd.FK k27 _ _ (⟨1, y120⟩ : S27) [.int .i64 1, .slice Ao39 y120.length co39] from (k27_mkF _ _ (⟨1, y120⟩ : S27) (Kd.R_reads' (Kd.R_mono (ok' := (fun _ => True)) (HO122.out) (fun k_ hk => trivial))).2.1 (Kd.R_F (Kd.R_mono (ok' := (fun _ => True)) (HO122.out) (fun k_ hk => trivial))))) (Reps.none _ _)))); intro v124 w40 ho41 hb hg_ hnew_; clear hg_ hnew_; (first | rw [← Ny123.out] at ho41 | (simp only [Int.reduceToNat] at ho41; rw [← Ny123.out] at ho41)); have n0_ := Aside0.mk (Kd.N_lower ho41 (below_size (gw_ HB))); have n1_ := Aside0.mk (below_step (gw_ HB) hb); clear HB; clear HO119; clear HO122; have HO125 := n0_; have HB := n1_; clear n0_ n1_; clear hb ho41; obtain ⟨Ao42, co42, eo42⟩ := Kd.N_slice HO125.out; subst eo42) | ((with_reducible refine gate_callee (f := 11) rfl ?_); refine goesL_ (some 7) rfl rfl Try.func11 (by kernel_rfl) rfl #[.slice Ao42 y123.length co42] rfl (by (try simp only [List.map_toArray, List.map_cons, List.map_nil]); first | done | rfl | (simp only [List.length_drop, List.length_take]; rfl)) ?_; (with_reducible refine (attr_Merge.calls k _ _ y123 t126 t127 _ ?side1 ?side2 A1.out).mono ?_); (case side1 => repeat (first | exact (Kd.N_reads' HO125.out).2.2 | (with_reducible refine Kd.C_alloc ?_ _) | (with_reducible refine Kd.C_drewN ?_ _) | (with_reducible refine Kd.C_drew ?_))); (case side2 => exact (Kd.N_reads' HO125.out).2.1); rintro e w43 ⟨v128, rfl, ho0, hb⟩; refine ⟨_, rfl, ?_⟩; have n0_ := Aside0.mk (Kd.N_elder' (Kd.nk HO125) (Kd.R_base ho0) hb); have n1_ := Aside0.mk (Kd.R_lower ho0 (below_size (gw_ HB))); have n2_ := Aside0.mk (below_step (gw_ HB) hb); clear HO125; clear HB; have HO125 := n0_; have HO129 := n1_; have HB := n2_; clear n0_ n1_ n2_; (try clear hb); (try clear hb2); (try clear hk); (try clear hi); (try clear ho0)) | ((with_reducible refine gate_dst (N := 1) rfl ?_); (try (refine gate_guard (by rfl) ?_; dsimp only)); refine box_event ?hg (N := 1) ?hd (cs := #[.int .i64 0, .slice none 0 0]) (t := 27) ?hr ?_; (case hd => rfl); (case hg => rfl); (case hr => first | (go_simp; done) | (go_simp; rfl)); intro gb130 hg w44 hbox hb; have n0_ := Aside0.mk (Kd.N_below (Kd.N_elderB (Kd.nk HO125) gb130 (Nat.le_of_eq hg.symm)) hb); have n1_ := Aside0.mk (Kd.R_below (Kd.rk HO129) hb); have s_ := step_size_ (gw_ HB) hb hg; have n2_ := Aside0.mk s_.1; have n3_ := Aside0.mk (hbox); have n4_ := Aside0.mk s_.2; clear s_; have n5_ := n4_; clear HO125; clear HO129; clear HB; have HO125 := n0_; have HO129 := n1_; have HB := n2_; have BK130 := n3_; have GW130 := n4_; have GE130 := n5_; clear n0_ n1_ n2_ n3_ n4_ n5_; clear hb hbox hg; obtain ⟨hcz45_0, hcz45_1⟩ := blk_cells2 BK130.out; obtain ⟨hfz45_0, hfz45_1⟩ := blk_frozens2 BK130.out; obtain ⟨Ao46, co46, eo46⟩ := Kd.R_slice HO129.out; subst eo46))
   go_ret
   exact ⟨by first | rfl | (simp [errW_none, errW_some] <;> rfl) | (simp [*, errW_none, errW_some] <;> rfl), gw_ HB⟩
 ·
  rw [if_neg c2] at H
  have c2b0 : (t126 == 2) = false := beq_eq_false_iff_ne.mpr c2
  have c2b1 : (t126 != 2) = true := bne_iff_ne.mpr c2
  obtain rfl := Option.some.inj H
  go_enter Try.func9, Try.ntmps9
  go_wp2_with (first | ((with_reducible refine gate_dst (N := 2) rfl ?_); (try (refine gate_guard (by rfl) ?_; dsimp only)); refine Kd.R_lit (Kd.int .i64) _ 3 ?hg (N := 2) ?hd (xs := ([1, 0, 3] : List Int)) (inner := [.int .i64 1, .int .i64 0, .int .i64 3]) (ok := fun _ => True) (okp := fun _ => True) ?hr ?hp (fun _ hk => hk) trivial (Below.refl _ _) (Nat.le_refl _) (by simp) ?_; (case hd => rfl); (case hg => rfl); (case hr => first | (go_simp; done) | (go_simp; rfl)); (case hp => exact (Reps.one (show Kd.M (Kd.int .i64) _ _ _ 1 [.int .i64 1] from rfl) (Reps.one (show Kd.M (Kd.int .i64) _ _ _ 0 [.int .i64 0] from rfl) (Reps.one (show Kd.M (Kd.int .i64) _ _ _ 3 [.int .i64 3] from rfl) (Reps.none _ _))))); intro v118 w47 ho48 hb hg_ hnew_; clear hg_ hnew_; (first | rw [← Ny117.out] at ho48 | (simp only [Int.reduceToNat] at ho48; rw [← Ny117.out] at ho48)); have n0_ := Aside0.mk (Kd.R_lower ho48 (below_size (gw_ HB))); have n1_ := Aside0.mk (below_step (gw_ HB) hb); clear HB; have HO119 := n0_; have HB := n1_; clear n0_ n1_; clear hb ho48; obtain ⟨Ao49, co49, eo49⟩ := Kd.R_slice HO119.out; subst eo49) | ((with_reducible refine gate_dst (N := 4) rfl ?_); (try (refine gate_guard (by rfl) ?_; dsimp only)); refine Kd.R_lit (Kd.int .i64) _ 3 ?hg (N := 4) ?hd (xs := ([0, 5] : List Int)) (inner := [.int .i64 0, .int .i64 5]) (ok := fun _ => True) (okp := fun _ => True) ?hr ?hp (fun _ hk => hk) trivial (Below.refl _ _) (Nat.le_refl _) (by simp) ?_; (case hd => rfl); (case hg => rfl); (case hr => first | (go_simp; done) | (go_simp; rfl)); (case hp => exact (Reps.one (show Kd.M (Kd.int .i64) _ _ _ 0 [.int .i64 0] from rfl) (Reps.one (show Kd.M (Kd.int .i64) _ _ _ 5 [.int .i64 5] from rfl) (Reps.none _ _)))); intro v121 w50 ho51 hb hg_ hnew_; clear hg_ hnew_; (first | rw [← Ny120.out] at ho51 | (simp only [Int.reduceToNat] at ho51; rw [← Ny120.out] at ho51)); have n0_ := Aside0.mk (Kd.R_elder' (Kd.rk HO119) (Kd.R_base ho51) hb); have n1_ := Aside0.mk (Kd.R_lower (Kd.R_new' ho51 (Kd.R_lt (Kd.rk HO119))) (below_size (gw_ HB))); have n2_ := Aside0.mk (below_step (gw_ HB) hb); clear HO119; clear HB; have HO119 := n0_; have HO122 := n1_; have HB := n2_; clear n0_ n1_ n2_; clear hb ho51; obtain ⟨Ao52, co52, eo52⟩ := Kd.R_slice HO122.out; subst eo52) | ((with_reducible refine gate_dst (N := 6) rfl ?_); (try (refine gate_guard (by rfl) ?_; dsimp only)); refine Kd.N_lit k27 _ 27 ?hg (N' := 6) ?hd (xs := ([(⟨2, y117⟩ : S27), (⟨1, y120⟩ : S27)] : List (S27))) (inner := [.int .i64 2, .slice Ao49 y117.length co49, .int .i64 1, .slice Ao52 y120.length co52]) (ok := (fun _ => True)) (okp := (fun _ => True)) ?hr ?hp (fun _ hk => hk) ((show ∀ k_, w50.heap.size ≤ k_ → (fun _ => True) k_ from fun k_ hk => trivial) _ (Nat.le_refl _)) (Below.refl _ _) (Nat.le_refl _) (by simp) ?_; (case hd => rfl); (case hg => rfl); (case hr => first | (go_simp; done) | (go_simp; rfl)); (case hp => exact (Reps.c2 (show Kd.FK k27 _ _ (⟨2, y117⟩ : S27) [.int .i64 2, .slice Ao49 y117.length co49] from (k27_mkF _ _ (⟨2, y117⟩ : S27) (Kd.R_reads' (Kd.R_mono (ok' := (fun _ => True)) (HO119.out) (fun k_ hk => trivial))).2.1 (Kd.R_F (Kd.R_mono (ok' := (fun _ => True)) (HO119.out) (fun k_ hk => trivial))))) (Reps.c2 (show Kd.FK k27 _ _ (⟨1, y120⟩ : S27) [.int .i64 1, .slice Ao52 y120.length co52] from (k27_mkF _ _ (⟨1, y120⟩ : S27) (Kd.R_reads' (Kd.R_mono (ok' := (fun _ => True)) (HO122.out) (fun k_ hk => trivial))).2.1 (Kd.R_F (Kd.R_mono (ok' := (fun _ => True)) (HO122.out) (fun k_ hk => trivial))))) (Reps.none _ _)))); intro v124 w53 ho54 hb hg_ hnew_; clear hg_ hnew_; (first | rw [← Ny123.out] at ho54 | (simp only [Int.reduceToNat] at ho54; rw [← Ny123.out] at ho54)); have n0_ := Aside0.mk (Kd.N_lower ho54 (below_size (gw_ HB))); have n1_ := Aside0.mk (below_step (gw_ HB) hb); clear HB; clear HO119; clear HO122; have HO125 := n0_; have HB := n1_; clear n0_ n1_; clear hb ho54; obtain ⟨Ao55, co55, eo55⟩ := Kd.N_slice HO125.out; subst eo55) | ((with_reducible refine gate_callee (f := 11) rfl ?_); refine goesL_ (some 7) rfl rfl Try.func11 (by kernel_rfl) rfl #[.slice Ao55 y123.length co55] rfl (by (try simp only [List.map_toArray, List.map_cons, List.map_nil]); first | done | rfl | (simp only [List.length_drop, List.length_take]; rfl)) ?_; (with_reducible refine (attr_Merge.calls k _ _ y123 t126 t127 _ ?side1 ?side2 A1.out).mono ?_); (case side1 => repeat (first | exact (Kd.N_reads' HO125.out).2.2 | (with_reducible refine Kd.C_alloc ?_ _) | (with_reducible refine Kd.C_drewN ?_ _) | (with_reducible refine Kd.C_drew ?_))); (case side2 => exact (Kd.N_reads' HO125.out).2.1); rintro e w56 ⟨v128, rfl, ho0, hb⟩; refine ⟨_, rfl, ?_⟩; have n0_ := Aside0.mk (Kd.N_elder' (Kd.nk HO125) (Kd.R_base ho0) hb); have n1_ := Aside0.mk (Kd.R_lower ho0 (below_size (gw_ HB))); have n2_ := Aside0.mk (below_step (gw_ HB) hb); clear HO125; clear HB; have HO125 := n0_; have HO129 := n1_; have HB := n2_; clear n0_ n1_ n2_; (try clear hb); (try clear hb2); (try clear hk); (try clear hi); (try clear ho0)) | ((with_reducible refine gate_dst (N := 1) rfl ?_); (try (refine gate_guard (by rfl) ?_; dsimp only)); refine box_event ?hg (N := 1) ?hd (cs := #[.int .i64 0, .slice none 0 0]) (t := 27) ?hr ?_; (case hd => rfl); (case hg => rfl); (case hr => first | (go_simp; done) | (go_simp; rfl)); intro gb130 hg w57 hbox hb; have n0_ := Aside0.mk (Kd.N_below (Kd.N_elderB (Kd.nk HO125) gb130 (Nat.le_of_eq hg.symm)) hb); have n1_ := Aside0.mk (Kd.R_below (Kd.rk HO129) hb); have s_ := step_size_ (gw_ HB) hb hg; have n2_ := Aside0.mk s_.1; have n3_ := Aside0.mk (hbox); have n4_ := Aside0.mk s_.2; clear s_; have n5_ := n4_; clear HO125; clear HO129; clear HB; have HO125 := n0_; have HO129 := n1_; have HB := n2_; have BK130 := n3_; have GW130 := n4_; have GE130 := n5_; clear n0_ n1_ n2_ n3_ n4_ n5_; clear hb hbox hg; obtain ⟨hcz58_0, hcz58_1⟩ := blk_cells2 BK130.out; obtain ⟨hfz58_0, hfz58_1⟩ := blk_frozens2 BK130.out; obtain ⟨Ao59, co59, eo59⟩ := Kd.R_slice HO129.out; subst eo59))
  go_ret
  exact ⟨by first | rfl | (simp [errW_none, errW_some] <;> rfl) | (simp [*, errW_none, errW_some] <;> rfl), gw_ HB⟩

end Go.Proofs.Ytolfjfepehmfgaa.P
