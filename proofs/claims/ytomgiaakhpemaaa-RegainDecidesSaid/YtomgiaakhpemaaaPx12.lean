/- Plain Lean functions and their contracts over the translation, written by a program of this session (myprint.py, over the kit's print); no condition but each contract's own. -/
import Derived.Test.YtomgiaakhpemaaaPx0
import Derived.Test.YtomgiaakhpemaaaPx11
namespace Go.Proofs.Ytomgiaakhpemaaa.P
open Go.RowKit Go.Proofs.YtomgiaakhpemaaaW.PrintWords Go.Proofs.YtomgiaakhpemaaaW.PrintLast Go.Proofs.YtomgiaakhpemaaaW.PrintMore
attribute [local go_sem] max2_int min2_int max_two min_two max_three min_three max_four min_four   -- for this text's walks alone
set_option linter.unusedVariables false
set_option linter.unusedSimpArgs false

abbrev q28_0 : Array Bool := #[false, false, false, false, false, false, false, false, false, false, false, false, false, false, false, false, false, false, false, false, false, false, false, false, false, false, false, false]
abbrev q28_1 : Array Bool := #[true, false, false, false, false, false, false, false, false, false, false, false, false, false, false, false, false, false, false, false, false, false, false, false, false, false, false, false]
abbrev q28_2 : Array Bool := #[true, true, false, false, false, false, false, false, false, false, false, false, false, false, false, false, false, false, false, false, false, false, false, false, false, false, false, false]
abbrev q28_3 : Array Bool := #[true, true, true, false, false, false, false, false, false, false, false, false, false, false, false, false, false, false, false, false, false, false, false, false, false, false, false, false]
abbrev q28_4 : Array Bool := #[true, true, true, true, false, false, false, false, false, false, false, false, false, false, false, false, false, false, false, false, false, false, false, false, false, false, false, false]
abbrev q28_5 : Array Bool := #[true, true, true, true, true, false, false, false, false, false, false, false, false, false, false, false, false, false, false, false, false, false, false, false, false, false, false, false]
abbrev q28_6 : Array Bool := #[true, true, true, true, true, false, true, false, false, false, false, false, false, false, false, false, false, false, false, false, false, false, false, false, false, false, false, false]
abbrev q28_7 : Array Bool := #[true, true, true, true, true, true, true, false, false, false, false, false, false, false, false, false, false, false, false, false, false, false, false, false, false, false, false, false]
abbrev q28_8 : Array Bool := #[true, true, true, true, true, true, true, true, false, false, false, false, false, false, false, false, false, false, false, false, false, false, false, false, false, false, false, false]
abbrev q28_9 : Array Bool := #[true, true, true, true, true, true, true, true, true, false, false, false, false, false, false, false, false, false, false, false, false, false, false, false, false, false, false, false]
abbrev q28_10 : Array Bool := #[true, true, true, true, true, true, true, true, true, true, false, false, false, false, false, false, false, false, false, false, false, false, false, false, false, false, false, false]
abbrev q28_11 : Array Bool := #[true, true, true, true, true, true, true, true, true, true, true, false, false, false, false, false, false, false, false, false, false, false, false, false, false, false, false, false]
abbrev q28_12 : Array Bool := #[true, true, true, true, true, true, true, true, true, true, true, true, false, false, false, false, false, false, false, false, false, false, false, false, false, false, false, false]
abbrev q28_13 : Array Bool := #[true, true, true, true, true, true, true, true, true, true, true, true, true, false, false, false, false, false, false, false, false, false, false, false, false, false, false, false]
abbrev q28_14 : Array Bool := #[true, true, true, true, true, true, true, true, true, true, true, true, true, true, false, false, false, false, false, false, false, false, false, false, false, false, false, false]
abbrev q28_15 : Array Bool := #[true, true, true, true, true, true, true, true, true, true, true, true, true, true, true, false, false, false, false, false, false, false, false, false, false, false, false, false]
abbrev q28_16 : Array Bool := #[true, true, true, true, true, true, true, true, true, true, true, true, true, true, true, true, false, false, false, false, false, false, false, false, false, false, false, false]
abbrev q28_17 : Array Bool := #[true, true, true, true, true, true, true, true, true, true, true, true, true, true, true, true, true, false, false, false, false, false, false, false, false, false, false, false]
abbrev q28_18 : Array Bool := #[true, true, true, true, true, true, true, true, true, true, true, true, true, true, true, true, true, false, true, false, false, false, false, false, false, false, false, false]
abbrev q28_19 : Array Bool := #[true, true, true, true, true, true, true, true, true, true, true, true, true, true, true, true, true, true, false, false, false, false, false, false, false, false, false, false]
abbrev q28_20 : Array Bool := #[true, true, true, true, true, true, true, true, true, true, true, true, true, true, true, true, true, false, true, true, false, false, false, false, false, false, false, false]
abbrev q28_21 : Array Bool := #[true, true, true, true, true, true, true, true, true, true, true, true, true, true, true, true, true, true, true, false, false, false, false, false, false, false, false, false]
abbrev q28_22 : Array Bool := #[true, true, true, true, true, true, true, true, true, true, true, true, true, true, true, true, true, false, true, true, true, false, false, false, false, false, false, false]
abbrev q28_23 : Array Bool := #[true, true, true, true, true, true, true, true, true, true, true, true, true, true, true, true, true, true, true, true, false, false, false, false, false, false, false, false]
abbrev q28_24 : Array Bool := #[true, true, true, true, true, true, true, true, true, true, true, true, true, true, true, true, true, false, true, true, true, true, false, false, false, false, false, false]
abbrev q28_25 : Array Bool := #[true, true, true, true, true, true, true, true, true, true, true, true, true, true, true, true, true, true, true, true, true, false, false, false, false, false, false, false]
abbrev q28_26 : Array Bool := #[true, true, true, true, true, true, true, true, true, true, true, true, true, true, true, true, true, false, true, true, true, true, true, false, false, false, false, false]
abbrev q28_27 : Array Bool := #[true, true, true, true, true, true, true, true, true, true, true, true, true, true, true, true, true, true, true, true, true, true, false, false, false, false, false, false]
abbrev q28_28 : Array Bool := #[true, true, true, true, true, true, true, true, true, true, true, true, true, true, true, true, true, true, true, true, true, true, true, false, false, false, false, false]
abbrev q28_29 : Array Bool := #[true, true, true, true, true, true, true, true, true, true, true, true, true, true, true, true, true, true, true, true, true, true, true, true, false, false, false, false]
abbrev q28_30 : Array Bool := #[true, true, true, true, true, true, true, true, true, true, true, true, true, true, true, true, true, true, true, true, true, true, true, true, true, false, false, false]
abbrev q28_31 : Array Bool := #[true, true, true, true, true, true, true, true, true, true, true, true, true, true, true, true, true, true, true, true, true, true, true, true, true, true, false, false]
abbrev q28_32 : Array Bool := #[true, true, true, true, true, true, true, true, true, true, true, true, true, true, true, true, true, true, true, true, true, true, true, true, true, true, true, false]
abbrev q28_33 : Array Bool := #[true, true, true, true, true, true, true, true, true, true, true, true, true, true, true, true, true, true, true, true, true, true, true, true, true, true, true, true]
def colloquyref10_best.l0 : Nat → List (S35) → Int → Int → Int → Option (Int)
 | 0, _, _, _, _ => none
 | k + 1, x0, x1, x5, x6 => if x6 < (x0.length : Int) then (if 0 ≤ x6 then (if ((rd_T35 x0 x6).f1.f0) = x1 then (if x5 < 0 then (colloquyref10_best.l0 k x0 x1 x6 (wrap64 (x6 + 1))) else (if 0 ≤ x5 then (if x5 < (x0.length : Int) then ((colloquyref07_Cmp.f k ((rd_T35 x0 x6).f1.f2.f0) ((rd_T35 x0 x6).f1.f2.f1) ((rd_T35 x0 x5).f1.f2.f0) ((rd_T35 x0 x5).f1.f2.f1)).bind fun t281 => (if t281 > 0 then (colloquyref10_best.l0 k x0 x1 x6 (wrap64 (x6 + 1))) else (colloquyref10_best.l0 k x0 x1 x5 (wrap64 (x6 + 1))))) else (none)) else (none))) else (colloquyref10_best.l0 k x0 x1 x5 (wrap64 (x6 + 1)))) else (none)) else (some x5)
def colloquyref10_best.f (k : Nat) (l0 : List (S35)) (a1 : Int) : Option (Int) := colloquyref10_best.l0 k l0 a1 (-1) 0
def colloquyref10_best.T5 : Bool × List (List Nat × List Nat) := (true, [([], []), ([], []), ([0, 1], [0, 1]), ([2], [2]), ([3], [3]), ([4], [4]), ([], []), ([5, 6], [5, 6]), ([7], [7]), ([8], [8]), ([9, 8], [8, 9]), ([10, 8, 8], [8, 10]), ([11], [11]), ([11], [11]), ([12, 13, 11], [11, 12, 13]), ([14, 11], [11, 14]), ([15, 11], [11, 15]), ([16, 11], [11, 16]), ([11], [11]), ([11], [11]), ([18, 19, 11], [11, 18, 19]), ([20, 11], [11, 20]), ([21, 11], [11, 21]), ([22, 11], [11, 22]), ([17, 23, 11, 11], [11, 17, 23]), ([24, 11], [11, 24]), ([11, 25, 8], [8, 11, 25]), ([8, 26], [8, 26])])
def colloquyref10_best.B5 : List Nat := [0, 0, 3, 7, 15, 31, 0, 127, 255, 511, 1023, 2047, 4095, 4095, 16383, 32767, 65535, 131071, 4095, 4095, 790527, 1839103, 3936255, 8130559, 16777215, 33554431, 67108863, 134217727]
theorem colloquyref10_best.tab5 : rtab .any (opsOf Try.f28 5) = colloquyref10_best.T5 := by kernel_rfl
theorem colloquyref10_best.bits5 : waitsOk colloquyref10_best.T5.2 colloquyref10_best.B5 = true := by kernel_rfl
set_option maxHeartbeats 8000000 in
set_option maxRecDepth 100000 in
theorem colloquyref10_best.calls (k : Nat) (A0 : Option Addr) (c0 : Nat) (l0 : List (S35)) (a1 : Int) (r : Int) (w : World) (hr0 : Kd.C k35 w A0 l0.length l0) (hc0 : l0.length ≤ c0) (h : colloquyref10_best.f k l0 a1 = some r) :
  Calls Try.prog 28 #[.slice A0 l0.length c0, .int .i64 a1] w fun e w' => e = .returned (.int .i64 r) ∧ Below w.heap.size w w' := by
 have hu26 := Try.underlying26
 have HR0 := Aside0.mk hr0
 have HC0 := Aside0.mk hc0
 clear hr0 hc0
 have HB := Aside0.mk (Below.refl w.heap.size w)
 have H : (colloquyref10_best.l0 k l0 a1 (-1) 0) = some r := h
 clear h
 have H' := Aside0.mk H
 clear H
 go_enter Try.func28, Try.ntmps28
 go_wp2
 go_loopg [5, 6] k (fun kq v5 v6 w' => ∃ (x5_1 : Int) (x6_1 : Int), v5 = .int .i64 x5_1 ∧ v6 = .int .i64 x6_1 ∧ Aside0 (colloquyref10_best.l0 kq l0 a1 x5_1 x6_1 = some r) ∧ Aside0 (kq ≤ k) ∧ Aside0 (Below w.heap.size w w'))
 case atStart => exact ⟨((-1)), (0), (by first | rfl | (simp; done) | (simp [*]; done)), (by first | rfl | (simp; done) | (simp [*]; done)), H', ⟨Nat.le_refl _⟩, ⟨gw_ HB⟩⟩
 case round =>
  clear H'
  try clear c2
  try clear p2
  obtain ⟨x5_1, x6_1, rfl, rfl, HA, HK1, HB⟩ := hrel
  cases gk with
  | zero => exact absurd HA.out (by simp [colloquyref10_best.l0])
  | succ k1 =>
   have H := HA.out
   clear HA
   simp only [colloquyref10_best.l0] at H
   by_cases c3 : x6_1 < (l0.length : Int)
   ·
    rw [if_pos c3] at H
    have c3b0 : decide (x6_1 < (l0.length : Int)) = true := decide_eq_true c3
    clear c3
    by_cases c4 : 0 ≤ x6_1
    ·
     rw [if_pos c4] at H
     have c4b0 : decide (0 ≤ x6_1) = true := decide_eq_true c4
     clear c4
     by_cases c5 : ((rd_T35 l0 x6_1).f1.f0) = a1
     ·
      rw [if_pos c5] at H
      have c5b0 : (((rd_T35 l0 x6_1).f1.f0) == a1) = true := beq_iff_eq.mpr c5
      have c5b1 : (((rd_T35 l0 x6_1).f1.f0) != a1) = false := bne_eq_false_iff_eq.mpr c5
      clear c5
      by_cases c6 : x5_1 < 0
      ·
       rw [if_pos c6] at H
       have c6b0 : decide (x5_1 < 0) = true := decide_eq_true c6
       clear c6
       have H' := Aside0.mk H
       clear H
       try go_wp2
       have n0_ := Aside0.mk (below_drew1 HB.out)
       clear HB
       have HB := n0_
       clear n0_
       have p278 : 0 ≤ (x6_1 : Int) := of_decide_eq_true (by first | (with_reducible assumption) | assumption)
       have q278 : x6_1 < (l0.length : Int) := of_decide_eq_true (by first | (with_reducible assumption) | assumption)
       obtain ⟨ad278, A278_13, c278_13, e278, hx278_0, hx278_1, hx278_2, hx278_3, hx278_4, hx278_5, hx278_6, hx278_7, hx278_8, hx278_9, hx278_10, hx278_11, hx278_12, hx278_13, hl278_13, hi278_13⟩ := at_T35 HR0.out x6_1 p278 q278
       have hw278_13 := hx278_13
       have hw278_12 := hx278_12
       have hw278_11 := hx278_11
       have hw278_10 := hx278_10
       have hw278_9 := hx278_9
       have hw278_8 := hx278_8
       have hw278_7 := hx278_7
       have hw278_6 := hx278_6
       have hw278_5 := hx278_5
       have hw278_4 := hx278_4
       have hw278_3 := hx278_3
       have hw278_2 := hx278_2
       have hw278_1 := hx278_1
       have hw278_0 := hx278_0
       cases e278
       replace hx278_0 := (HB.out.cell (World.block_lt_of_cell? w _ hx278_0)).trans hx278_0
       replace hx278_1 := (HB.out.cell (World.block_lt_of_cell? w _ hx278_1)).trans hx278_1
       replace hx278_2 := (HB.out.cell (World.block_lt_of_cell? w _ hx278_2)).trans hx278_2
       replace hx278_3 := (HB.out.cell (World.block_lt_of_cell? w _ hx278_3)).trans hx278_3
       replace hx278_4 := (HB.out.cell (World.block_lt_of_cell? w _ hx278_4)).trans hx278_4
       replace hx278_5 := (HB.out.cell (World.block_lt_of_cell? w _ hx278_5)).trans hx278_5
       replace hx278_6 := (HB.out.cell (World.block_lt_of_cell? w _ hx278_6)).trans hx278_6
       replace hx278_7 := (HB.out.cell (World.block_lt_of_cell? w _ hx278_7)).trans hx278_7
       replace hx278_8 := (HB.out.cell (World.block_lt_of_cell? w _ hx278_8)).trans hx278_8
       replace hx278_9 := (HB.out.cell (World.block_lt_of_cell? w _ hx278_9)).trans hx278_9
       replace hx278_10 := (HB.out.cell (World.block_lt_of_cell? w _ hx278_10)).trans hx278_10
       replace hx278_11 := (HB.out.cell (World.block_lt_of_cell? w _ hx278_11)).trans hx278_11
       replace hx278_12 := (HB.out.cell (World.block_lt_of_cell? w _ hx278_12)).trans hx278_12
       replace hx278_13 := (HB.out.cell (World.block_lt_of_cell? w _ hx278_13)).trans hx278_13
       have HR278_13 := Aside0.mk hi278_13
       have HC278_13 := Aside0.mk hl278_13
       clear hi278_13 hl278_13
       replace p278 := eq_true p278
       replace q278 := eq_true q278
       refine start_ (n := 28) (S := fun w' => w'.cell? (ad278.add ((x6_1).toNat * 14)) = some (.int .i64 ((rd_T35 l0 x6_1).f0)) ∧ w'.cell? ⟨(ad278.add ((x6_1).toNat * 14)).block, (ad278.add ((x6_1).toNat * 14)).off + 1, none⟩ = some (.int .i64 ((rd_T35 l0 x6_1).f1.f0)) ∧ w'.cell? ⟨(ad278.add ((x6_1).toNat * 14)).block, (ad278.add ((x6_1).toNat * 14)).off + 2, none⟩ = some (.int .i64 ((rd_T35 l0 x6_1).f1.f1.f0)) ∧ w'.cell? ⟨(ad278.add ((x6_1).toNat * 14)).block, (ad278.add ((x6_1).toNat * 14)).off + 3, none⟩ = some (.int .i64 ((rd_T35 l0 x6_1).f1.f1.f1)) ∧ w'.cell? ⟨(ad278.add ((x6_1).toNat * 14)).block, (ad278.add ((x6_1).toNat * 14)).off + 4, none⟩ = some (.int .i64 ((rd_T35 l0 x6_1).f1.f2.f0)) ∧ w'.cell? ⟨(ad278.add ((x6_1).toNat * 14)).block, (ad278.add ((x6_1).toNat * 14)).off + 5, none⟩ = some (.int .i64 ((rd_T35 l0 x6_1).f1.f2.f1)) ∧ w'.cell? ⟨(ad278.add ((x6_1).toNat * 14)).block, (ad278.add ((x6_1).toNat * 14)).off + 6, none⟩ = some (.int .i64 ((rd_T35 l0 x6_1).f1.f3.f0)) ∧ w'.cell? ⟨(ad278.add ((x6_1).toNat * 14)).block, (ad278.add ((x6_1).toNat * 14)).off + 7, none⟩ = some (.int .i64 ((rd_T35 l0 x6_1).f1.f3.f1)) ∧ w'.cell? ⟨(ad278.add ((x6_1).toNat * 14)).block, (ad278.add ((x6_1).toNat * 14)).off + 8, none⟩ = some (.int .i64 ((rd_T35 l0 x6_1).f1.f3.f2)) ∧ w'.cell? ⟨(ad278.add ((x6_1).toNat * 14)).block, (ad278.add ((x6_1).toNat * 14)).off + 9, none⟩ = some (.int .i64 ((rd_T35 l0 x6_1).f1.f3.f3)) ∧ w'.cell? ⟨(ad278.add ((x6_1).toNat * 14)).block, (ad278.add ((x6_1).toNat * 14)).off + 10, none⟩ = some (.int .i64 ((rd_T35 l0 x6_1).f1.f3.f4)) ∧ w'.cell? ⟨(ad278.add ((x6_1).toNat * 14)).block, (ad278.add ((x6_1).toNat * 14)).off + 11, none⟩ = some (.string ((rd_T35 l0 x6_1).f1.f3.f5)) ∧ w'.cell? ⟨(ad278.add ((x6_1).toNat * 14)).block, (ad278.add ((x6_1).toNat * 14)).off + 12, none⟩ = some (.int .i64 ((rd_T35 l0 x6_1).f1.f4.f0)) ∧ w'.cell? ⟨(ad278.add ((x6_1).toNat * 14)).block, (ad278.add ((x6_1).toNat * 14)).off + 13, none⟩ = some (.slice A278_13 ((rd_T35 l0 x6_1).f1.f4.f1).length c278_13)) (ds := []) q28_0 (by kernel_rfl) rfl rfl ⟨((HB.out.cell (World.block_lt_of_cell? w _ hw278_0)).trans hw278_0), ((HB.out.cell (World.block_lt_of_cell? w _ hw278_1)).trans hw278_1), ((HB.out.cell (World.block_lt_of_cell? w _ hw278_2)).trans hw278_2), ((HB.out.cell (World.block_lt_of_cell? w _ hw278_3)).trans hw278_3), ((HB.out.cell (World.block_lt_of_cell? w _ hw278_4)).trans hw278_4), ((HB.out.cell (World.block_lt_of_cell? w _ hw278_5)).trans hw278_5), ((HB.out.cell (World.block_lt_of_cell? w _ hw278_6)).trans hw278_6), ((HB.out.cell (World.block_lt_of_cell? w _ hw278_7)).trans hw278_7), ((HB.out.cell (World.block_lt_of_cell? w _ hw278_8)).trans hw278_8), ((HB.out.cell (World.block_lt_of_cell? w _ hw278_9)).trans hw278_9), ((HB.out.cell (World.block_lt_of_cell? w _ hw278_10)).trans hw278_10), ((HB.out.cell (World.block_lt_of_cell? w _ hw278_11)).trans hw278_11), ((HB.out.cell (World.block_lt_of_cell? w _ hw278_12)).trans hw278_12), ((HB.out.cell (World.block_lt_of_cell? w _ hw278_13)).trans hw278_13)⟩ (fun hHeld => ?_); refine with_tabW colloquyref10_best.tab5 colloquyref10_best.bits5 (fun HT_ HW_ => ?_)
       generalize wr.drew = w7 at HB HR278_13 hx278_0 hx278_1 hx278_10 hx278_11 hx278_12 hx278_13 hx278_2 hx278_3 hx278_4 hx278_5 hx278_6 hx278_7 hx278_8 hx278_9 hHeld ⊢
       refine pure_ (i := 0) (N := some 13) (v := ?_) (a' := ?_) q28_1 rfl rfl (any_of HT_.out (by kernel_rfl)) (fun _ _ _ h => h) (Or.inl ⟨by rfl, ?_⟩) ?_ ?_
       rotate_left
       ·
        intro w'
        go_simp
        with_reducible rfl
       rotate_left
       ·
        simp only [Act.put, List.setIfInBounds_toArray, List.set_cons_zero, List.set_cons_succ, i64_w, i32_w]
        rfl
       refine pure_ (i := 1) (N := some 14) (v := ?_) (a' := ?_) q28_2 rfl rfl (any_of HT_.out (by kernel_rfl)) (fun _ _ _ h => h) (Or.inl ⟨by rfl, ?_⟩) ?_ ?_
       rotate_left
       ·
        intro w'
        go_simp
        with_reducible rfl
       rotate_left
       ·
        simp only [Act.put, List.setIfInBounds_toArray, List.set_cons_zero, List.set_cons_succ, i64_w, i32_w]
        rfl
       refine pure_ (i := 2) (N := some 15) (v := ?_) (a' := ?_) q28_3 rfl rfl (any_of HT_.out (by kernel_rfl)) (fun _ _ _ h => h) (Or.inl ⟨by rfl, ?_⟩) ?_ ?_
       rotate_left
       ·
        intro w'
        go_simp
        with_reducible rfl
       rotate_left
       ·
        simp only [Act.put, List.setIfInBounds_toArray, List.set_cons_zero, List.set_cons_succ, i64_w, i32_w]
        rfl
       refine pure_ (i := 3) (N := some 16) (v := ?_) (a' := ?_) q28_4 rfl rfl (any_of HT_.out (by kernel_rfl)) (fun _ _ _ h => h) (Or.inl ⟨by rfl, ?_⟩) ?_ ?_
       rotate_left
       ·
        intro w'
        go_simp
        with_reducible rfl
       rotate_left
       ·
        simp only [Act.put, List.setIfInBounds_toArray, List.set_cons_zero, List.set_cons_succ, i64_w, i32_w]
        rfl
       refine pure_ (i := 4) (N := some 17) (v := ?_) (a' := ?_) q28_5 rfl rfl (any_of HT_.out (by kernel_rfl)) (fun _ _ _ h => h) (Or.inl ⟨by rfl, ?_⟩) ?_ ?_
       rotate_left
       ·
        intro w'
        go_simp
        with_reducible rfl
       rotate_left
       ·
        simp only [Act.put, List.setIfInBounds_toArray, List.set_cons_zero, List.set_cons_succ, i64_w, i32_w]
        rfl
       refine pure_ (i := 6) (N := some 19) (v := ?_) (a' := ?_) q28_6 rfl rfl (any_of HT_.out (by kernel_rfl)) (fun _ _ _ h => h) (Or.inl ⟨by rfl, ?_⟩) ?_ ?_
       rotate_left
       ·
        intro w'
        go_simp
        with_reducible rfl
       rotate_left
       ·
        simp only [Act.put, List.setIfInBounds_toArray, List.set_cons_zero, List.set_cons_succ, i64_w, i32_w]
        rfl
       refine take_ (i := 5) (N := some 18) (v := ?_) (a' := ?_) q28_7 rfl rfl (take_ofW HT_.out HW_.out (by kernel_rfl)) (fun _ _ _ h => h) (Or.inl ⟨by rfl, ?_⟩) hHeld ?_ ?_
       rotate_left
       ·
        rintro w' ⟨s0, s1, s2, s3, s4, s5, s6, s7, s8, s9, s10, s11, s12, s13⟩
        go_simp
        with_reducible rfl
       rotate_left
       ·
        simp only [Act.put, List.setIfInBounds_toArray, List.set_cons_zero, List.set_cons_succ, i64_w, i32_w]
        rfl
       refine pure_ (i := 7) (N := some 20) (v := ?_) (a' := ?_) q28_8 rfl rfl (any_of HT_.out (by kernel_rfl)) (fun _ _ _ h => h) (Or.inl ⟨by rfl, ?_⟩) ?_ ?_
       rotate_left
       ·
        intro w'
        go_simp
        with_reducible rfl
       rotate_left
       ·
        simp only [Act.put, List.setIfInBounds_toArray, List.set_cons_zero, List.set_cons_succ, i64_w, i32_w]
        rfl
       refine pure_ (i := 8) (N := some 21) (v := ?_) (a' := ?_) q28_9 rfl rfl (any_of HT_.out (by kernel_rfl)) (fun _ _ _ h => h) (Or.inl ⟨by rfl, ?_⟩) ?_ ?_
       rotate_left
       ·
        intro w'
        go_simp
        with_reducible rfl
       rotate_left
       ·
        simp only [Act.put, List.setIfInBounds_toArray, List.set_cons_zero, List.set_cons_succ, i64_w, i32_w]
        rfl
       refine pure_ (i := 9) (N := some 22) (v := ?_) (a' := ?_) q28_10 rfl rfl (any_of HT_.out (by kernel_rfl)) (fun _ _ _ h => h) (Or.inl ⟨by rfl, ?_⟩) ?_ ?_
       rotate_left
       ·
        intro w'
        go_simp
        with_reducible rfl
       rotate_left
       ·
        simp only [Act.put, List.setIfInBounds_toArray, List.set_cons_zero, List.set_cons_succ, i64_w, i32_w]
        rfl
       refine pure_ (i := 10) (N := some 23) (v := ?_) (a' := ?_) q28_11 rfl rfl (any_of HT_.out (by kernel_rfl)) (fun _ _ _ h => h) (Or.inl ⟨by rfl, ?_⟩) ?_ ?_
       rotate_left
       ·
        intro w'
        go_simp
        with_reducible rfl
       rotate_left
       ·
        simp only [Act.put, List.setIfInBounds_toArray, List.set_cons_zero, List.set_cons_succ, i64_w, i32_w]
        rfl
       refine pure_ (i := 11) (N := some 24) (v := ?_) (a' := ?_) q28_12 rfl rfl (any_of HT_.out (by kernel_rfl)) (fun _ _ _ h => h) (Or.inl ⟨by rfl, ?_⟩) ?_ ?_
       rotate_left
       ·
        intro w'
        go_simp
        with_reducible rfl
       rotate_left
       ·
        simp only [Act.put, List.setIfInBounds_toArray, List.set_cons_zero, List.set_cons_succ, i64_w, i32_w]
        rfl
       refine pure_ (i := 12) (N := some 25) (v := undef) (a' := ?_) q28_13 rfl rfl (any_of HT_.out (by kernel_rfl)) (fun _ _ _ h => h) (Or.inr ⟨by rfl, rfl⟩) ?_ ?_
       rotate_left
       ·
        simp only [Act.put, List.setIfInBounds_toArray, List.set_cons_zero, List.set_cons_succ, i64_w, i32_w]
        rfl
       refine pure_ (i := 13) (N := some 26) (v := undef) (a' := ?_) q28_14 rfl rfl (any_of HT_.out (by kernel_rfl)) (fun _ _ _ h => h) (Or.inr ⟨by rfl, rfl⟩) ?_ ?_
       rotate_left
       ·
        simp only [Act.put, List.setIfInBounds_toArray, List.set_cons_zero, List.set_cons_succ, i64_w, i32_w]
        rfl
       refine pure_ (i := 14) (N := some 27) (v := undef) (a' := ?_) q28_15 rfl rfl (any_of HT_.out (by kernel_rfl)) (fun _ _ _ h => h) (Or.inr ⟨by rfl, rfl⟩) ?_ ?_
       rotate_left
       ·
        simp only [Act.put, List.setIfInBounds_toArray, List.set_cons_zero, List.set_cons_succ, i64_w, i32_w]
        rfl
       refine pure_ (i := 15) (N := some 28) (v := undef) (a' := ?_) q28_16 rfl rfl (any_of HT_.out (by kernel_rfl)) (fun _ _ _ h => h) (Or.inr ⟨by rfl, rfl⟩) ?_ ?_
       rotate_left
       ·
        simp only [Act.put, List.setIfInBounds_toArray, List.set_cons_zero, List.set_cons_succ, i64_w, i32_w]
        rfl
       refine pure_ (i := 16) (N := some 29) (v := undef) (a' := ?_) q28_17 rfl rfl (any_of HT_.out (by kernel_rfl)) (fun _ _ _ h => h) (Or.inr ⟨by rfl, rfl⟩) ?_ ?_
       rotate_left
       ·
        simp only [Act.put, List.setIfInBounds_toArray, List.set_cons_zero, List.set_cons_succ, i64_w, i32_w]
        rfl
       refine pure_ (i := 17) (N := some 30) (v := undef) (a' := ?_) q28_19 rfl rfl (any_of HT_.out (by kernel_rfl)) (fun _ _ _ h => h) (Or.inr ⟨by rfl, rfl⟩) ?_ ?_
       rotate_left
       ·
        simp only [Act.put, List.setIfInBounds_toArray, List.set_cons_zero, List.set_cons_succ, i64_w, i32_w]
        rfl
       refine pure_ (i := 18) (N := some 31) (v := undef) (a' := ?_) q28_21 rfl rfl (any_of HT_.out (by kernel_rfl)) (fun _ _ _ h => h) (Or.inr ⟨by rfl, rfl⟩) ?_ ?_
       rotate_left
       ·
        simp only [Act.put, List.setIfInBounds_toArray, List.set_cons_zero, List.set_cons_succ, i64_w, i32_w]
        rfl
       refine pure_ (i := 19) (N := some 32) (v := undef) (a' := ?_) q28_23 rfl rfl (any_of HT_.out (by kernel_rfl)) (fun _ _ _ h => h) (Or.inr ⟨by rfl, rfl⟩) ?_ ?_
       rotate_left
       ·
        simp only [Act.put, List.setIfInBounds_toArray, List.set_cons_zero, List.set_cons_succ, i64_w, i32_w]
        rfl
       refine pure_ (i := 20) (N := some 33) (v := undef) (a' := ?_) q28_25 rfl rfl (any_of HT_.out (by kernel_rfl)) (fun _ _ _ h => h) (Or.inr ⟨by rfl, rfl⟩) ?_ ?_
       rotate_left
       ·
        simp only [Act.put, List.setIfInBounds_toArray, List.set_cons_zero, List.set_cons_succ, i64_w, i32_w]
        rfl
       refine pure_ (i := 21) (N := some 34) (v := undef) (a' := ?_) q28_27 rfl rfl (any_of HT_.out (by kernel_rfl)) (fun _ _ _ h => h) (Or.inr ⟨by rfl, rfl⟩) ?_ ?_
       rotate_left
       ·
        simp only [Act.put, List.setIfInBounds_toArray, List.set_cons_zero, List.set_cons_succ, i64_w, i32_w]
        rfl
       refine pure_ (i := 22) (N := some 35) (v := undef) (a' := ?_) q28_28 rfl rfl (any_of HT_.out (by kernel_rfl)) (fun _ _ _ h => h) (Or.inr ⟨by rfl, rfl⟩) ?_ ?_
       rotate_left
       ·
        simp only [Act.put, List.setIfInBounds_toArray, List.set_cons_zero, List.set_cons_succ, i64_w, i32_w]
        rfl
       refine pure_ (i := 23) (N := some 36) (v := undef) (a' := ?_) q28_29 rfl rfl (any_of HT_.out (by kernel_rfl)) (fun _ _ _ h => h) (Or.inr ⟨by rfl, rfl⟩) ?_ ?_
       rotate_left
       ·
        simp only [Act.put, List.setIfInBounds_toArray, List.set_cons_zero, List.set_cons_succ, i64_w, i32_w]
        rfl
       refine pure_ (i := 24) (N := some 37) (v := undef) (a' := ?_) q28_30 rfl rfl (any_of HT_.out (by kernel_rfl)) (fun _ _ _ h => h) (Or.inr ⟨by rfl, rfl⟩) ?_ ?_
       rotate_left
       ·
        simp only [Act.put, List.setIfInBounds_toArray, List.set_cons_zero, List.set_cons_succ, i64_w, i32_w]
        rfl
       refine pure_ (i := 25) (N := some 38) (v := undef) (a' := ?_) q28_31 rfl rfl (any_of HT_.out (by kernel_rfl)) (fun _ _ _ h => h) (Or.inr ⟨by rfl, rfl⟩) ?_ ?_
       rotate_left
       ·
        simp only [Act.put, List.setIfInBounds_toArray, List.set_cons_zero, List.set_cons_succ, i64_w, i32_w]
        rfl
       refine pure_ (i := 26) (N := some 39) (v := ?_) (a' := ?_) q28_32 rfl rfl (any_of HT_.out (by kernel_rfl)) (fun _ _ _ h => h) (Or.inl ⟨by rfl, ?_⟩) ?_ ?_
       rotate_left
       ·
        intro w'
        go_simp
        with_reducible rfl
       rotate_left
       ·
        simp only [Act.put, List.setIfInBounds_toArray, List.set_cons_zero, List.set_cons_succ, i64_w, i32_w]
        rfl
       refine pure_ (i := 27) (N := some 40) (v := ?_) (a' := ?_) q28_33 rfl rfl (any_of HT_.out (by kernel_rfl)) (fun _ _ _ h => h) (Or.inl ⟨by rfl, ?_⟩) ?_ ?_
       rotate_left
       ·
        intro w'
        go_simp
        with_reducible rfl
       rotate_left
       ·
        simp only [Act.put, List.setIfInBounds_toArray, List.set_cons_zero, List.set_cons_succ, i64_w, i32_w]
        rfl
       refine done_ (done_of HT_.out (by kernel_rfl)) ?_
       try go_wp2
       go_roundg k1
       case measure => have := HK1.out; omega
       case rel => exact ⟨(x6_1), (wrap64 (x6_1 + 1)), (by first | rfl | (simp; done) | (simp [*]; done)), (by first | rfl | (simp; done) | (simp [*]; done)), H', ⟨by have := HK1.out; omega⟩, ⟨gw_ HB⟩⟩
      ·
       rw [if_neg c6] at H
       have c6b0 : decide (x5_1 < 0) = false := decide_eq_false c6
       clear c6
       by_cases c8 : 0 ≤ x5_1
       ·
        rw [if_pos c8] at H
        have c8b0 : decide (0 ≤ x5_1) = true := decide_eq_true c8
        clear c8
        by_cases c9 : x5_1 < (l0.length : Int)
        ·
         rw [if_pos c9] at H
         have c9b0 : decide (x5_1 < (l0.length : Int)) = true := decide_eq_true c9
         clear c9
         replace H := Option.bind_eq_some_iff.mp H
         obtain ⟨t281, A100, H⟩ := H
         replace H : (if t281 > 0 then (colloquyref10_best.l0 k1 l0 a1 x6_1 (wrap64 (x6_1 + 1))) else (colloquyref10_best.l0 k1 l0 a1 x5_1 (wrap64 (x6_1 + 1)))) = some r := H
         have A10 := Aside0.mk A100
         clear A100
         by_cases c11 : t281 > 0
         ·
          rw [if_pos c11] at H
          have c11b0 : decide (0 < t281) = true := decide_eq_true c11
          clear c11
          have H' := Aside0.mk H
          clear H
          try go_wp2
          have n0_ := Aside0.mk (below_drew1 HB.out)
          clear HB
          have HB := n0_
          clear n0_
          have p278 : 0 ≤ (x6_1 : Int) := of_decide_eq_true (by first | (with_reducible assumption) | assumption)
          have q278 : x6_1 < (l0.length : Int) := of_decide_eq_true (by first | (with_reducible assumption) | assumption)
          obtain ⟨ad278, A278_13, c278_13, e278, hx278_0, hx278_1, hx278_2, hx278_3, hx278_4, hx278_5, hx278_6, hx278_7, hx278_8, hx278_9, hx278_10, hx278_11, hx278_12, hx278_13, hl278_13, hi278_13⟩ := at_T35 HR0.out x6_1 p278 q278
          have hw278_13 := hx278_13
          have hw278_12 := hx278_12
          have hw278_11 := hx278_11
          have hw278_10 := hx278_10
          have hw278_9 := hx278_9
          have hw278_8 := hx278_8
          have hw278_7 := hx278_7
          have hw278_6 := hx278_6
          have hw278_5 := hx278_5
          have hw278_4 := hx278_4
          have hw278_3 := hx278_3
          have hw278_2 := hx278_2
          have hw278_1 := hx278_1
          have hw278_0 := hx278_0
          cases e278
          replace hx278_0 := (HB.out.cell (World.block_lt_of_cell? w _ hx278_0)).trans hx278_0
          replace hx278_1 := (HB.out.cell (World.block_lt_of_cell? w _ hx278_1)).trans hx278_1
          replace hx278_2 := (HB.out.cell (World.block_lt_of_cell? w _ hx278_2)).trans hx278_2
          replace hx278_3 := (HB.out.cell (World.block_lt_of_cell? w _ hx278_3)).trans hx278_3
          replace hx278_4 := (HB.out.cell (World.block_lt_of_cell? w _ hx278_4)).trans hx278_4
          replace hx278_5 := (HB.out.cell (World.block_lt_of_cell? w _ hx278_5)).trans hx278_5
          replace hx278_6 := (HB.out.cell (World.block_lt_of_cell? w _ hx278_6)).trans hx278_6
          replace hx278_7 := (HB.out.cell (World.block_lt_of_cell? w _ hx278_7)).trans hx278_7
          replace hx278_8 := (HB.out.cell (World.block_lt_of_cell? w _ hx278_8)).trans hx278_8
          replace hx278_9 := (HB.out.cell (World.block_lt_of_cell? w _ hx278_9)).trans hx278_9
          replace hx278_10 := (HB.out.cell (World.block_lt_of_cell? w _ hx278_10)).trans hx278_10
          replace hx278_11 := (HB.out.cell (World.block_lt_of_cell? w _ hx278_11)).trans hx278_11
          replace hx278_12 := (HB.out.cell (World.block_lt_of_cell? w _ hx278_12)).trans hx278_12
          replace hx278_13 := (HB.out.cell (World.block_lt_of_cell? w _ hx278_13)).trans hx278_13
          have HR278_13 := Aside0.mk hi278_13
          have HC278_13 := Aside0.mk hl278_13
          clear hi278_13 hl278_13
          replace p278 := eq_true p278
          replace q278 := eq_true q278
          have p279 : 0 ≤ (x6_1 : Int) := of_decide_eq_true (by first | (with_reducible assumption) | assumption)
          have q279 : x6_1 < (l0.length : Int) := of_decide_eq_true (by first | (with_reducible assumption) | assumption)
          obtain ⟨ad279, A279_13, c279_13, e279, hx279_0, hx279_1, hx279_2, hx279_3, hx279_4, hx279_5, hx279_6, hx279_7, hx279_8, hx279_9, hx279_10, hx279_11, hx279_12, hx279_13, hl279_13, hi279_13⟩ := at_T35 HR0.out x6_1 p279 q279
          have hw279_13 := hx279_13
          have hw279_12 := hx279_12
          have hw279_11 := hx279_11
          have hw279_10 := hx279_10
          have hw279_9 := hx279_9
          have hw279_8 := hx279_8
          have hw279_7 := hx279_7
          have hw279_6 := hx279_6
          have hw279_5 := hx279_5
          have hw279_4 := hx279_4
          have hw279_3 := hx279_3
          have hw279_2 := hx279_2
          have hw279_1 := hx279_1
          have hw279_0 := hx279_0
          obtain rfl : ad278 = ad279 := (by injection e279)
          replace hx279_0 := (HB.out.cell (World.block_lt_of_cell? w _ hx279_0)).trans hx279_0
          replace hx279_1 := (HB.out.cell (World.block_lt_of_cell? w _ hx279_1)).trans hx279_1
          replace hx279_2 := (HB.out.cell (World.block_lt_of_cell? w _ hx279_2)).trans hx279_2
          replace hx279_3 := (HB.out.cell (World.block_lt_of_cell? w _ hx279_3)).trans hx279_3
          replace hx279_4 := (HB.out.cell (World.block_lt_of_cell? w _ hx279_4)).trans hx279_4
          replace hx279_5 := (HB.out.cell (World.block_lt_of_cell? w _ hx279_5)).trans hx279_5
          replace hx279_6 := (HB.out.cell (World.block_lt_of_cell? w _ hx279_6)).trans hx279_6
          replace hx279_7 := (HB.out.cell (World.block_lt_of_cell? w _ hx279_7)).trans hx279_7
          replace hx279_8 := (HB.out.cell (World.block_lt_of_cell? w _ hx279_8)).trans hx279_8
          replace hx279_9 := (HB.out.cell (World.block_lt_of_cell? w _ hx279_9)).trans hx279_9
          replace hx279_10 := (HB.out.cell (World.block_lt_of_cell? w _ hx279_10)).trans hx279_10
          replace hx279_11 := (HB.out.cell (World.block_lt_of_cell? w _ hx279_11)).trans hx279_11
          replace hx279_12 := (HB.out.cell (World.block_lt_of_cell? w _ hx279_12)).trans hx279_12
          replace hx279_13 := (HB.out.cell (World.block_lt_of_cell? w _ hx279_13)).trans hx279_13
          have HR279_13 := Aside0.mk hi279_13
          have HC279_13 := Aside0.mk hl279_13
          clear hi279_13 hl279_13
          replace p279 := eq_true p279
          replace q279 := eq_true q279
          have ea_ := Option.some.inj (hx278_13.symm.trans hx279_13)
          injection ea_ with ea_ en_ ec_
          subst ea_
          subst ec_
          clear en_
          have p280 : 0 ≤ (x5_1 : Int) := of_decide_eq_true (by first | (with_reducible assumption) | assumption)
          have q280 : x5_1 < (l0.length : Int) := of_decide_eq_true (by first | (with_reducible assumption) | assumption)
          obtain ⟨ad280, A280_13, c280_13, e280, hx280_0, hx280_1, hx280_2, hx280_3, hx280_4, hx280_5, hx280_6, hx280_7, hx280_8, hx280_9, hx280_10, hx280_11, hx280_12, hx280_13, hl280_13, hi280_13⟩ := at_T35 HR0.out x5_1 p280 q280
          have hw280_13 := hx280_13
          have hw280_12 := hx280_12
          have hw280_11 := hx280_11
          have hw280_10 := hx280_10
          have hw280_9 := hx280_9
          have hw280_8 := hx280_8
          have hw280_7 := hx280_7
          have hw280_6 := hx280_6
          have hw280_5 := hx280_5
          have hw280_4 := hx280_4
          have hw280_3 := hx280_3
          have hw280_2 := hx280_2
          have hw280_1 := hx280_1
          have hw280_0 := hx280_0
          obtain rfl : ad278 = ad280 := (by injection e280)
          replace hx280_0 := (HB.out.cell (World.block_lt_of_cell? w _ hx280_0)).trans hx280_0
          replace hx280_1 := (HB.out.cell (World.block_lt_of_cell? w _ hx280_1)).trans hx280_1
          replace hx280_2 := (HB.out.cell (World.block_lt_of_cell? w _ hx280_2)).trans hx280_2
          replace hx280_3 := (HB.out.cell (World.block_lt_of_cell? w _ hx280_3)).trans hx280_3
          replace hx280_4 := (HB.out.cell (World.block_lt_of_cell? w _ hx280_4)).trans hx280_4
          replace hx280_5 := (HB.out.cell (World.block_lt_of_cell? w _ hx280_5)).trans hx280_5
          replace hx280_6 := (HB.out.cell (World.block_lt_of_cell? w _ hx280_6)).trans hx280_6
          replace hx280_7 := (HB.out.cell (World.block_lt_of_cell? w _ hx280_7)).trans hx280_7
          replace hx280_8 := (HB.out.cell (World.block_lt_of_cell? w _ hx280_8)).trans hx280_8
          replace hx280_9 := (HB.out.cell (World.block_lt_of_cell? w _ hx280_9)).trans hx280_9
          replace hx280_10 := (HB.out.cell (World.block_lt_of_cell? w _ hx280_10)).trans hx280_10
          replace hx280_11 := (HB.out.cell (World.block_lt_of_cell? w _ hx280_11)).trans hx280_11
          replace hx280_12 := (HB.out.cell (World.block_lt_of_cell? w _ hx280_12)).trans hx280_12
          replace hx280_13 := (HB.out.cell (World.block_lt_of_cell? w _ hx280_13)).trans hx280_13
          have HR280_13 := Aside0.mk hi280_13
          have HC280_13 := Aside0.mk hl280_13
          clear hi280_13 hl280_13
          replace p280 := eq_true p280
          replace q280 := eq_true q280
          refine start_ (n := 28) (S := fun w' => w'.cell? (ad278.add ((x6_1).toNat * 14)) = some (.int .i64 ((rd_T35 l0 x6_1).f0)) ∧ w'.cell? ⟨(ad278.add ((x6_1).toNat * 14)).block, (ad278.add ((x6_1).toNat * 14)).off + 1, none⟩ = some (.int .i64 ((rd_T35 l0 x6_1).f1.f0)) ∧ w'.cell? ⟨(ad278.add ((x6_1).toNat * 14)).block, (ad278.add ((x6_1).toNat * 14)).off + 2, none⟩ = some (.int .i64 ((rd_T35 l0 x6_1).f1.f1.f0)) ∧ w'.cell? ⟨(ad278.add ((x6_1).toNat * 14)).block, (ad278.add ((x6_1).toNat * 14)).off + 3, none⟩ = some (.int .i64 ((rd_T35 l0 x6_1).f1.f1.f1)) ∧ w'.cell? ⟨(ad278.add ((x6_1).toNat * 14)).block, (ad278.add ((x6_1).toNat * 14)).off + 4, none⟩ = some (.int .i64 ((rd_T35 l0 x6_1).f1.f2.f0)) ∧ w'.cell? ⟨(ad278.add ((x6_1).toNat * 14)).block, (ad278.add ((x6_1).toNat * 14)).off + 5, none⟩ = some (.int .i64 ((rd_T35 l0 x6_1).f1.f2.f1)) ∧ w'.cell? ⟨(ad278.add ((x6_1).toNat * 14)).block, (ad278.add ((x6_1).toNat * 14)).off + 6, none⟩ = some (.int .i64 ((rd_T35 l0 x6_1).f1.f3.f0)) ∧ w'.cell? ⟨(ad278.add ((x6_1).toNat * 14)).block, (ad278.add ((x6_1).toNat * 14)).off + 7, none⟩ = some (.int .i64 ((rd_T35 l0 x6_1).f1.f3.f1)) ∧ w'.cell? ⟨(ad278.add ((x6_1).toNat * 14)).block, (ad278.add ((x6_1).toNat * 14)).off + 8, none⟩ = some (.int .i64 ((rd_T35 l0 x6_1).f1.f3.f2)) ∧ w'.cell? ⟨(ad278.add ((x6_1).toNat * 14)).block, (ad278.add ((x6_1).toNat * 14)).off + 9, none⟩ = some (.int .i64 ((rd_T35 l0 x6_1).f1.f3.f3)) ∧ w'.cell? ⟨(ad278.add ((x6_1).toNat * 14)).block, (ad278.add ((x6_1).toNat * 14)).off + 10, none⟩ = some (.int .i64 ((rd_T35 l0 x6_1).f1.f3.f4)) ∧ w'.cell? ⟨(ad278.add ((x6_1).toNat * 14)).block, (ad278.add ((x6_1).toNat * 14)).off + 11, none⟩ = some (.string ((rd_T35 l0 x6_1).f1.f3.f5)) ∧ w'.cell? ⟨(ad278.add ((x6_1).toNat * 14)).block, (ad278.add ((x6_1).toNat * 14)).off + 12, none⟩ = some (.int .i64 ((rd_T35 l0 x6_1).f1.f4.f0)) ∧ w'.cell? ⟨(ad278.add ((x6_1).toNat * 14)).block, (ad278.add ((x6_1).toNat * 14)).off + 13, none⟩ = some (.slice A278_13 ((rd_T35 l0 x6_1).f1.f4.f1).length c278_13) ∧ w'.cell? (ad278.add ((x6_1).toNat * 14)) = some (.int .i64 ((rd_T35 l0 x6_1).f0)) ∧ w'.cell? ⟨(ad278.add ((x6_1).toNat * 14)).block, (ad278.add ((x6_1).toNat * 14)).off + 1, none⟩ = some (.int .i64 ((rd_T35 l0 x6_1).f1.f0)) ∧ w'.cell? ⟨(ad278.add ((x6_1).toNat * 14)).block, (ad278.add ((x6_1).toNat * 14)).off + 2, none⟩ = some (.int .i64 ((rd_T35 l0 x6_1).f1.f1.f0)) ∧ w'.cell? ⟨(ad278.add ((x6_1).toNat * 14)).block, (ad278.add ((x6_1).toNat * 14)).off + 3, none⟩ = some (.int .i64 ((rd_T35 l0 x6_1).f1.f1.f1)) ∧ w'.cell? ⟨(ad278.add ((x6_1).toNat * 14)).block, (ad278.add ((x6_1).toNat * 14)).off + 4, none⟩ = some (.int .i64 ((rd_T35 l0 x6_1).f1.f2.f0)) ∧ w'.cell? ⟨(ad278.add ((x6_1).toNat * 14)).block, (ad278.add ((x6_1).toNat * 14)).off + 5, none⟩ = some (.int .i64 ((rd_T35 l0 x6_1).f1.f2.f1)) ∧ w'.cell? ⟨(ad278.add ((x6_1).toNat * 14)).block, (ad278.add ((x6_1).toNat * 14)).off + 6, none⟩ = some (.int .i64 ((rd_T35 l0 x6_1).f1.f3.f0)) ∧ w'.cell? ⟨(ad278.add ((x6_1).toNat * 14)).block, (ad278.add ((x6_1).toNat * 14)).off + 7, none⟩ = some (.int .i64 ((rd_T35 l0 x6_1).f1.f3.f1)) ∧ w'.cell? ⟨(ad278.add ((x6_1).toNat * 14)).block, (ad278.add ((x6_1).toNat * 14)).off + 8, none⟩ = some (.int .i64 ((rd_T35 l0 x6_1).f1.f3.f2)) ∧ w'.cell? ⟨(ad278.add ((x6_1).toNat * 14)).block, (ad278.add ((x6_1).toNat * 14)).off + 9, none⟩ = some (.int .i64 ((rd_T35 l0 x6_1).f1.f3.f3)) ∧ w'.cell? ⟨(ad278.add ((x6_1).toNat * 14)).block, (ad278.add ((x6_1).toNat * 14)).off + 10, none⟩ = some (.int .i64 ((rd_T35 l0 x6_1).f1.f3.f4)) ∧ w'.cell? ⟨(ad278.add ((x6_1).toNat * 14)).block, (ad278.add ((x6_1).toNat * 14)).off + 11, none⟩ = some (.string ((rd_T35 l0 x6_1).f1.f3.f5)) ∧ w'.cell? ⟨(ad278.add ((x6_1).toNat * 14)).block, (ad278.add ((x6_1).toNat * 14)).off + 12, none⟩ = some (.int .i64 ((rd_T35 l0 x6_1).f1.f4.f0)) ∧ w'.cell? ⟨(ad278.add ((x6_1).toNat * 14)).block, (ad278.add ((x6_1).toNat * 14)).off + 13, none⟩ = some (.slice A278_13 ((rd_T35 l0 x6_1).f1.f4.f1).length c278_13) ∧ w'.cell? (ad278.add ((x5_1).toNat * 14)) = some (.int .i64 ((rd_T35 l0 x5_1).f0)) ∧ w'.cell? ⟨(ad278.add ((x5_1).toNat * 14)).block, (ad278.add ((x5_1).toNat * 14)).off + 1, none⟩ = some (.int .i64 ((rd_T35 l0 x5_1).f1.f0)) ∧ w'.cell? ⟨(ad278.add ((x5_1).toNat * 14)).block, (ad278.add ((x5_1).toNat * 14)).off + 2, none⟩ = some (.int .i64 ((rd_T35 l0 x5_1).f1.f1.f0)) ∧ w'.cell? ⟨(ad278.add ((x5_1).toNat * 14)).block, (ad278.add ((x5_1).toNat * 14)).off + 3, none⟩ = some (.int .i64 ((rd_T35 l0 x5_1).f1.f1.f1)) ∧ w'.cell? ⟨(ad278.add ((x5_1).toNat * 14)).block, (ad278.add ((x5_1).toNat * 14)).off + 4, none⟩ = some (.int .i64 ((rd_T35 l0 x5_1).f1.f2.f0)) ∧ w'.cell? ⟨(ad278.add ((x5_1).toNat * 14)).block, (ad278.add ((x5_1).toNat * 14)).off + 5, none⟩ = some (.int .i64 ((rd_T35 l0 x5_1).f1.f2.f1)) ∧ w'.cell? ⟨(ad278.add ((x5_1).toNat * 14)).block, (ad278.add ((x5_1).toNat * 14)).off + 6, none⟩ = some (.int .i64 ((rd_T35 l0 x5_1).f1.f3.f0)) ∧ w'.cell? ⟨(ad278.add ((x5_1).toNat * 14)).block, (ad278.add ((x5_1).toNat * 14)).off + 7, none⟩ = some (.int .i64 ((rd_T35 l0 x5_1).f1.f3.f1)) ∧ w'.cell? ⟨(ad278.add ((x5_1).toNat * 14)).block, (ad278.add ((x5_1).toNat * 14)).off + 8, none⟩ = some (.int .i64 ((rd_T35 l0 x5_1).f1.f3.f2)) ∧ w'.cell? ⟨(ad278.add ((x5_1).toNat * 14)).block, (ad278.add ((x5_1).toNat * 14)).off + 9, none⟩ = some (.int .i64 ((rd_T35 l0 x5_1).f1.f3.f3)) ∧ w'.cell? ⟨(ad278.add ((x5_1).toNat * 14)).block, (ad278.add ((x5_1).toNat * 14)).off + 10, none⟩ = some (.int .i64 ((rd_T35 l0 x5_1).f1.f3.f4)) ∧ w'.cell? ⟨(ad278.add ((x5_1).toNat * 14)).block, (ad278.add ((x5_1).toNat * 14)).off + 11, none⟩ = some (.string ((rd_T35 l0 x5_1).f1.f3.f5)) ∧ w'.cell? ⟨(ad278.add ((x5_1).toNat * 14)).block, (ad278.add ((x5_1).toNat * 14)).off + 12, none⟩ = some (.int .i64 ((rd_T35 l0 x5_1).f1.f4.f0)) ∧ w'.cell? ⟨(ad278.add ((x5_1).toNat * 14)).block, (ad278.add ((x5_1).toNat * 14)).off + 13, none⟩ = some (.slice A280_13 ((rd_T35 l0 x5_1).f1.f4.f1).length c280_13)) (ds := []) q28_0 (by kernel_rfl) rfl rfl ⟨((HB.out.cell (World.block_lt_of_cell? w _ hw278_0)).trans hw278_0), ((HB.out.cell (World.block_lt_of_cell? w _ hw278_1)).trans hw278_1), ((HB.out.cell (World.block_lt_of_cell? w _ hw278_2)).trans hw278_2), ((HB.out.cell (World.block_lt_of_cell? w _ hw278_3)).trans hw278_3), ((HB.out.cell (World.block_lt_of_cell? w _ hw278_4)).trans hw278_4), ((HB.out.cell (World.block_lt_of_cell? w _ hw278_5)).trans hw278_5), ((HB.out.cell (World.block_lt_of_cell? w _ hw278_6)).trans hw278_6), ((HB.out.cell (World.block_lt_of_cell? w _ hw278_7)).trans hw278_7), ((HB.out.cell (World.block_lt_of_cell? w _ hw278_8)).trans hw278_8), ((HB.out.cell (World.block_lt_of_cell? w _ hw278_9)).trans hw278_9), ((HB.out.cell (World.block_lt_of_cell? w _ hw278_10)).trans hw278_10), ((HB.out.cell (World.block_lt_of_cell? w _ hw278_11)).trans hw278_11), ((HB.out.cell (World.block_lt_of_cell? w _ hw278_12)).trans hw278_12), ((HB.out.cell (World.block_lt_of_cell? w _ hw278_13)).trans hw278_13), ((HB.out.cell (World.block_lt_of_cell? w _ hw279_0)).trans hw279_0), ((HB.out.cell (World.block_lt_of_cell? w _ hw279_1)).trans hw279_1), ((HB.out.cell (World.block_lt_of_cell? w _ hw279_2)).trans hw279_2), ((HB.out.cell (World.block_lt_of_cell? w _ hw279_3)).trans hw279_3), ((HB.out.cell (World.block_lt_of_cell? w _ hw279_4)).trans hw279_4), ((HB.out.cell (World.block_lt_of_cell? w _ hw279_5)).trans hw279_5), ((HB.out.cell (World.block_lt_of_cell? w _ hw279_6)).trans hw279_6), ((HB.out.cell (World.block_lt_of_cell? w _ hw279_7)).trans hw279_7), ((HB.out.cell (World.block_lt_of_cell? w _ hw279_8)).trans hw279_8), ((HB.out.cell (World.block_lt_of_cell? w _ hw279_9)).trans hw279_9), ((HB.out.cell (World.block_lt_of_cell? w _ hw279_10)).trans hw279_10), ((HB.out.cell (World.block_lt_of_cell? w _ hw279_11)).trans hw279_11), ((HB.out.cell (World.block_lt_of_cell? w _ hw279_12)).trans hw279_12), ((HB.out.cell (World.block_lt_of_cell? w _ hw279_13)).trans hw279_13), ((HB.out.cell (World.block_lt_of_cell? w _ hw280_0)).trans hw280_0), ((HB.out.cell (World.block_lt_of_cell? w _ hw280_1)).trans hw280_1), ((HB.out.cell (World.block_lt_of_cell? w _ hw280_2)).trans hw280_2), ((HB.out.cell (World.block_lt_of_cell? w _ hw280_3)).trans hw280_3), ((HB.out.cell (World.block_lt_of_cell? w _ hw280_4)).trans hw280_4), ((HB.out.cell (World.block_lt_of_cell? w _ hw280_5)).trans hw280_5), ((HB.out.cell (World.block_lt_of_cell? w _ hw280_6)).trans hw280_6), ((HB.out.cell (World.block_lt_of_cell? w _ hw280_7)).trans hw280_7), ((HB.out.cell (World.block_lt_of_cell? w _ hw280_8)).trans hw280_8), ((HB.out.cell (World.block_lt_of_cell? w _ hw280_9)).trans hw280_9), ((HB.out.cell (World.block_lt_of_cell? w _ hw280_10)).trans hw280_10), ((HB.out.cell (World.block_lt_of_cell? w _ hw280_11)).trans hw280_11), ((HB.out.cell (World.block_lt_of_cell? w _ hw280_12)).trans hw280_12), ((HB.out.cell (World.block_lt_of_cell? w _ hw280_13)).trans hw280_13)⟩ (fun hHeld => ?_); refine with_tabW colloquyref10_best.tab5 colloquyref10_best.bits5 (fun HT_ HW_ => ?_)
          generalize wr.drew = w12 at HB HR278_13 HR279_13 HR280_13 hx278_0 hx278_1 hx278_10 hx278_11 hx278_12 hx278_13 hx278_2 hx278_3 hx278_4 hx278_5 hx278_6 hx278_7 hx278_8 hx278_9 hx279_0 hx279_1 hx279_10 hx279_11 hx279_12 hx279_13 hx279_2 hx279_3 hx279_4 hx279_5 hx279_6 hx279_7 hx279_8 hx279_9 hx280_0 hx280_1 hx280_10 hx280_11 hx280_12 hx280_13 hx280_2 hx280_3 hx280_4 hx280_5 hx280_6 hx280_7 hx280_8 hx280_9 hHeld ⊢
          refine pure_ (i := 0) (N := some 13) (v := ?_) (a' := ?_) q28_1 rfl rfl (any_of HT_.out (by kernel_rfl)) (fun _ _ _ h => h) (Or.inl ⟨by rfl, ?_⟩) ?_ ?_
          rotate_left
          ·
           intro w'
           go_simp
           with_reducible rfl
          rotate_left
          ·
           simp only [Act.put, List.setIfInBounds_toArray, List.set_cons_zero, List.set_cons_succ, i64_w, i32_w]
           rfl
          refine pure_ (i := 1) (N := some 14) (v := ?_) (a' := ?_) q28_2 rfl rfl (any_of HT_.out (by kernel_rfl)) (fun _ _ _ h => h) (Or.inl ⟨by rfl, ?_⟩) ?_ ?_
          rotate_left
          ·
           intro w'
           go_simp
           with_reducible rfl
          rotate_left
          ·
           simp only [Act.put, List.setIfInBounds_toArray, List.set_cons_zero, List.set_cons_succ, i64_w, i32_w]
           rfl
          refine pure_ (i := 2) (N := some 15) (v := ?_) (a' := ?_) q28_3 rfl rfl (any_of HT_.out (by kernel_rfl)) (fun _ _ _ h => h) (Or.inl ⟨by rfl, ?_⟩) ?_ ?_
          rotate_left
          ·
           intro w'
           go_simp
           with_reducible rfl
          rotate_left
          ·
           simp only [Act.put, List.setIfInBounds_toArray, List.set_cons_zero, List.set_cons_succ, i64_w, i32_w]
           rfl
          refine pure_ (i := 3) (N := some 16) (v := ?_) (a' := ?_) q28_4 rfl rfl (any_of HT_.out (by kernel_rfl)) (fun _ _ _ h => h) (Or.inl ⟨by rfl, ?_⟩) ?_ ?_
          rotate_left
          ·
           intro w'
           go_simp
           with_reducible rfl
          rotate_left
          ·
           simp only [Act.put, List.setIfInBounds_toArray, List.set_cons_zero, List.set_cons_succ, i64_w, i32_w]
           rfl
          refine pure_ (i := 4) (N := some 17) (v := ?_) (a' := ?_) q28_5 rfl rfl (any_of HT_.out (by kernel_rfl)) (fun _ _ _ h => h) (Or.inl ⟨by rfl, ?_⟩) ?_ ?_
          rotate_left
          ·
           intro w'
           go_simp
           with_reducible rfl
          rotate_left
          ·
           simp only [Act.put, List.setIfInBounds_toArray, List.set_cons_zero, List.set_cons_succ, i64_w, i32_w]
           rfl
          refine pure_ (i := 6) (N := some 19) (v := ?_) (a' := ?_) q28_6 rfl rfl (any_of HT_.out (by kernel_rfl)) (fun _ _ _ h => h) (Or.inl ⟨by rfl, ?_⟩) ?_ ?_
          rotate_left
          ·
           intro w'
           go_simp
           with_reducible rfl
          rotate_left
          ·
           simp only [Act.put, List.setIfInBounds_toArray, List.set_cons_zero, List.set_cons_succ, i64_w, i32_w]
           rfl
          refine take_ (i := 5) (N := some 18) (v := ?_) (a' := ?_) q28_7 rfl rfl (take_ofW HT_.out HW_.out (by kernel_rfl)) (fun _ _ _ h => h) (Or.inl ⟨by rfl, ?_⟩) hHeld ?_ ?_
          rotate_left
          ·
           rintro w' ⟨s0, s1, s2, s3, s4, s5, s6, s7, s8, s9, s10, s11, s12, s13, s14, s15, s16, s17, s18, s19, s20, s21, s22, s23, s24, s25, s26, s27, s28, s29, s30, s31, s32, s33, s34, s35, s36, s37, s38, s39, s40, s41⟩
           go_simp
           with_reducible rfl
          rotate_left
          ·
           simp only [Act.put, List.setIfInBounds_toArray, List.set_cons_zero, List.set_cons_succ, i64_w, i32_w]
           rfl
          refine pure_ (i := 7) (N := some 20) (v := ?_) (a' := ?_) q28_8 rfl rfl (any_of HT_.out (by kernel_rfl)) (fun _ _ _ h => h) (Or.inl ⟨by rfl, ?_⟩) ?_ ?_
          rotate_left
          ·
           intro w'
           go_simp
           with_reducible rfl
          rotate_left
          ·
           simp only [Act.put, List.setIfInBounds_toArray, List.set_cons_zero, List.set_cons_succ, i64_w, i32_w]
           rfl
          refine pure_ (i := 8) (N := some 21) (v := ?_) (a' := ?_) q28_9 rfl rfl (any_of HT_.out (by kernel_rfl)) (fun _ _ _ h => h) (Or.inl ⟨by rfl, ?_⟩) ?_ ?_
          rotate_left
          ·
           intro w'
           go_simp
           with_reducible rfl
          rotate_left
          ·
           simp only [Act.put, List.setIfInBounds_toArray, List.set_cons_zero, List.set_cons_succ, i64_w, i32_w]
           rfl
          refine pure_ (i := 9) (N := some 22) (v := ?_) (a' := ?_) q28_10 rfl rfl (any_of HT_.out (by kernel_rfl)) (fun _ _ _ h => h) (Or.inl ⟨by rfl, ?_⟩) ?_ ?_
          rotate_left
          ·
           intro w'
           go_simp
           with_reducible rfl
          rotate_left
          ·
           simp only [Act.put, List.setIfInBounds_toArray, List.set_cons_zero, List.set_cons_succ, i64_w, i32_w]
           rfl
          refine pure_ (i := 10) (N := some 23) (v := ?_) (a' := ?_) q28_11 rfl rfl (any_of HT_.out (by kernel_rfl)) (fun _ _ _ h => h) (Or.inl ⟨by rfl, ?_⟩) ?_ ?_
          rotate_left
          ·
           intro w'
           go_simp
           with_reducible rfl
          rotate_left
          ·
           simp only [Act.put, List.setIfInBounds_toArray, List.set_cons_zero, List.set_cons_succ, i64_w, i32_w]
           rfl
          refine pure_ (i := 11) (N := some 24) (v := ?_) (a' := ?_) q28_12 rfl rfl (any_of HT_.out (by kernel_rfl)) (fun _ _ _ h => h) (Or.inl ⟨by rfl, ?_⟩) ?_ ?_
          rotate_left
          ·
           intro w'
           go_simp
           with_reducible rfl
          rotate_left
          ·
           simp only [Act.put, List.setIfInBounds_toArray, List.set_cons_zero, List.set_cons_succ, i64_w, i32_w]
           rfl
          refine pure_ (i := 12) (N := some 25) (v := ?_) (a' := ?_) q28_13 rfl rfl (any_of HT_.out (by kernel_rfl)) (fun _ _ _ h => h) (Or.inl ⟨by rfl, ?_⟩) ?_ ?_
          rotate_left
          ·
           intro w'
           go_simp
           with_reducible rfl
          rotate_left
          ·
           simp only [Act.put, List.setIfInBounds_toArray, List.set_cons_zero, List.set_cons_succ, i64_w, i32_w]
           rfl
          refine pure_ (i := 13) (N := some 26) (v := ?_) (a' := ?_) q28_14 rfl rfl (any_of HT_.out (by kernel_rfl)) (fun _ _ _ h => h) (Or.inl ⟨by rfl, ?_⟩) ?_ ?_
          rotate_left
          ·
           intro w'
           go_simp
           with_reducible rfl
          rotate_left
          ·
           simp only [Act.put, List.setIfInBounds_toArray, List.set_cons_zero, List.set_cons_succ, i64_w, i32_w]
           rfl
          refine pure_ (i := 14) (N := some 27) (v := ?_) (a' := ?_) q28_15 rfl rfl (any_of HT_.out (by kernel_rfl)) (fun _ _ _ h => h) (Or.inl ⟨by rfl, ?_⟩) ?_ ?_
          rotate_left
          ·
           intro w'
           go_simp
           with_reducible rfl
          rotate_left
          ·
           simp only [Act.put, List.setIfInBounds_toArray, List.set_cons_zero, List.set_cons_succ, i64_w, i32_w]
           rfl
          refine pure_ (i := 15) (N := some 28) (v := ?_) (a' := ?_) q28_16 rfl rfl (any_of HT_.out (by kernel_rfl)) (fun _ _ _ h => h) (Or.inl ⟨by rfl, ?_⟩) ?_ ?_
          rotate_left
          ·
           intro w'
           go_simp
           with_reducible rfl
          rotate_left
          ·
           simp only [Act.put, List.setIfInBounds_toArray, List.set_cons_zero, List.set_cons_succ, i64_w, i32_w]
           rfl
          refine pure_ (i := 16) (N := some 29) (v := ?_) (a' := ?_) q28_17 rfl rfl (any_of HT_.out (by kernel_rfl)) (fun _ _ _ h => h) (Or.inl ⟨by rfl, ?_⟩) ?_ ?_
          rotate_left
          ·
           intro w'
           go_simp
           with_reducible rfl
          rotate_left
          ·
           simp only [Act.put, List.setIfInBounds_toArray, List.set_cons_zero, List.set_cons_succ, i64_w, i32_w]
           rfl
          refine pure_ (i := 18) (N := some 31) (v := ?_) (a' := ?_) q28_18 rfl rfl (any_of HT_.out (by kernel_rfl)) (fun _ _ _ h => h) (Or.inl ⟨by rfl, ?_⟩) ?_ ?_
          rotate_left
          ·
           intro w'
           go_simp
           with_reducible rfl
          rotate_left
          ·
           simp only [Act.put, List.setIfInBounds_toArray, List.set_cons_zero, List.set_cons_succ, i64_w, i32_w]
           rfl
          refine pure_ (i := 19) (N := some 32) (v := ?_) (a' := ?_) q28_20 rfl rfl (any_of HT_.out (by kernel_rfl)) (fun _ _ _ h => h) (Or.inl ⟨by rfl, ?_⟩) ?_ ?_
          rotate_left
          ·
           intro w'
           go_simp
           with_reducible rfl
          rotate_left
          ·
           simp only [Act.put, List.setIfInBounds_toArray, List.set_cons_zero, List.set_cons_succ, i64_w, i32_w]
           rfl
          refine pure_ (i := 20) (N := some 33) (v := ?_) (a' := ?_) q28_22 rfl rfl (any_of HT_.out (by kernel_rfl)) (fun _ _ _ h => h) (Or.inl ⟨by rfl, ?_⟩) ?_ ?_
          rotate_left
          ·
           intro w'
           go_simp
           with_reducible rfl
          rotate_left
          ·
           simp only [Act.put, List.setIfInBounds_toArray, List.set_cons_zero, List.set_cons_succ, i64_w, i32_w]
           rfl
          refine pure_ (i := 21) (N := some 34) (v := ?_) (a' := ?_) q28_24 rfl rfl (any_of HT_.out (by kernel_rfl)) (fun _ _ _ h => h) (Or.inl ⟨by rfl, ?_⟩) ?_ ?_
          rotate_left
          ·
           intro w'
           go_simp
           with_reducible rfl
          rotate_left
          ·
           simp only [Act.put, List.setIfInBounds_toArray, List.set_cons_zero, List.set_cons_succ, i64_w, i32_w]
           rfl
          refine pure_ (i := 22) (N := some 35) (v := ?_) (a' := ?_) q28_26 rfl rfl (any_of HT_.out (by kernel_rfl)) (fun _ _ _ h => h) (Or.inl ⟨by rfl, ?_⟩) ?_ ?_
          rotate_left
          ·
           intro w'
           go_simp
           with_reducible rfl
          rotate_left
          ·
           simp only [Act.put, List.setIfInBounds_toArray, List.set_cons_zero, List.set_cons_succ, i64_w, i32_w]
           rfl
          refine take_ (i := 17) (N := some 30) (v := ?_) (a' := ?_) q28_28 rfl rfl (take_ofW HT_.out HW_.out (by kernel_rfl)) (fun _ _ _ h => h) (Or.inl ⟨by rfl, ?_⟩) hHeld ?_ ?_
          rotate_left
          ·
           rintro w' ⟨s0, s1, s2, s3, s4, s5, s6, s7, s8, s9, s10, s11, s12, s13, s14, s15, s16, s17, s18, s19, s20, s21, s22, s23, s24, s25, s26, s27, s28, s29, s30, s31, s32, s33, s34, s35, s36, s37, s38, s39, s40, s41⟩
           go_simp
           with_reducible rfl
          rotate_left
          ·
           simp only [Act.put, List.setIfInBounds_toArray, List.set_cons_zero, List.set_cons_succ, i64_w, i32_w]
           rfl
          refine take_ (i := 23) (N := some 36) (v := ?_) (a' := ?_) q28_29 rfl rfl (take_ofW HT_.out HW_.out (by kernel_rfl)) (fun _ _ _ h => h) (Or.inl ⟨by rfl, ?_⟩) hHeld ?_ ?_
          rotate_left
          ·
           rintro w' ⟨s0, s1, s2, s3, s4, s5, s6, s7, s8, s9, s10, s11, s12, s13, s14, s15, s16, s17, s18, s19, s20, s21, s22, s23, s24, s25, s26, s27, s28, s29, s30, s31, s32, s33, s34, s35, s36, s37, s38, s39, s40, s41⟩
           go_simp
           with_reducible rfl
          rotate_left
          ·
           simp only [Act.put, List.setIfInBounds_toArray, List.set_cons_zero, List.set_cons_succ, i64_w, i32_w]
           rfl
          refine one_ (i := 24) (N := some 37) q28_30 rfl rfl (one_of HT_.out (by kernel_rfl)) (by decide) (fun K hK => ?_)
          refine goes_ Try.func29 (by kernel_rfl) rfl #[.agg #[.int .i64 ((rd_T35 l0 x6_1).f1.f2.f0), .int .i64 ((rd_T35 l0 x6_1).f1.f2.f1)], .agg #[.int .i64 ((rd_T35 l0 x5_1).f1.f2.f0), .int .i64 ((rd_T35 l0 x5_1).f1.f2.f1)]] (by rfl) rfl rfl (by (try simp only [List.map_toArray, List.map_cons, List.map_nil]); first | done | rfl | (simp only [List.length_drop, List.length_take]; rfl)) ?_
          with_reducible refine (colloquyref07_Cmp.calls k1 ((rd_T35 l0 x6_1).f1.f2.f0) ((rd_T35 l0 x6_1).f1.f2.f1) ((rd_T35 l0 x5_1).f1.f2.f0) ((rd_T35 l0 x5_1).f1.f2.f1) t281 _ A10.out).mono ?_
          rintro e w13 ⟨rfl, hb⟩
          refine ⟨_, rfl, ?_⟩
          have n0_ := Aside0.mk (below_step (gw_ HB) hb)
          clear HB
          have HB := n0_
          clear n0_
          (try clear hb)
          (try clear hb2)
          (try clear hk)
          (try clear hi)
          refine hK.out _ _ ⟨((HB.out.cell (World.block_lt_of_cell? w _ hw278_0)).trans hw278_0), ((HB.out.cell (World.block_lt_of_cell? w _ hw278_1)).trans hw278_1), ((HB.out.cell (World.block_lt_of_cell? w _ hw278_2)).trans hw278_2), ((HB.out.cell (World.block_lt_of_cell? w _ hw278_3)).trans hw278_3), ((HB.out.cell (World.block_lt_of_cell? w _ hw278_4)).trans hw278_4), ((HB.out.cell (World.block_lt_of_cell? w _ hw278_5)).trans hw278_5), ((HB.out.cell (World.block_lt_of_cell? w _ hw278_6)).trans hw278_6), ((HB.out.cell (World.block_lt_of_cell? w _ hw278_7)).trans hw278_7), ((HB.out.cell (World.block_lt_of_cell? w _ hw278_8)).trans hw278_8), ((HB.out.cell (World.block_lt_of_cell? w _ hw278_9)).trans hw278_9), ((HB.out.cell (World.block_lt_of_cell? w _ hw278_10)).trans hw278_10), ((HB.out.cell (World.block_lt_of_cell? w _ hw278_11)).trans hw278_11), ((HB.out.cell (World.block_lt_of_cell? w _ hw278_12)).trans hw278_12), ((HB.out.cell (World.block_lt_of_cell? w _ hw278_13)).trans hw278_13), ((HB.out.cell (World.block_lt_of_cell? w _ hw279_0)).trans hw279_0), ((HB.out.cell (World.block_lt_of_cell? w _ hw279_1)).trans hw279_1), ((HB.out.cell (World.block_lt_of_cell? w _ hw279_2)).trans hw279_2), ((HB.out.cell (World.block_lt_of_cell? w _ hw279_3)).trans hw279_3), ((HB.out.cell (World.block_lt_of_cell? w _ hw279_4)).trans hw279_4), ((HB.out.cell (World.block_lt_of_cell? w _ hw279_5)).trans hw279_5), ((HB.out.cell (World.block_lt_of_cell? w _ hw279_6)).trans hw279_6), ((HB.out.cell (World.block_lt_of_cell? w _ hw279_7)).trans hw279_7), ((HB.out.cell (World.block_lt_of_cell? w _ hw279_8)).trans hw279_8), ((HB.out.cell (World.block_lt_of_cell? w _ hw279_9)).trans hw279_9), ((HB.out.cell (World.block_lt_of_cell? w _ hw279_10)).trans hw279_10), ((HB.out.cell (World.block_lt_of_cell? w _ hw279_11)).trans hw279_11), ((HB.out.cell (World.block_lt_of_cell? w _ hw279_12)).trans hw279_12), ((HB.out.cell (World.block_lt_of_cell? w _ hw279_13)).trans hw279_13), ((HB.out.cell (World.block_lt_of_cell? w _ hw280_0)).trans hw280_0), ((HB.out.cell (World.block_lt_of_cell? w _ hw280_1)).trans hw280_1), ((HB.out.cell (World.block_lt_of_cell? w _ hw280_2)).trans hw280_2), ((HB.out.cell (World.block_lt_of_cell? w _ hw280_3)).trans hw280_3), ((HB.out.cell (World.block_lt_of_cell? w _ hw280_4)).trans hw280_4), ((HB.out.cell (World.block_lt_of_cell? w _ hw280_5)).trans hw280_5), ((HB.out.cell (World.block_lt_of_cell? w _ hw280_6)).trans hw280_6), ((HB.out.cell (World.block_lt_of_cell? w _ hw280_7)).trans hw280_7), ((HB.out.cell (World.block_lt_of_cell? w _ hw280_8)).trans hw280_8), ((HB.out.cell (World.block_lt_of_cell? w _ hw280_9)).trans hw280_9), ((HB.out.cell (World.block_lt_of_cell? w _ hw280_10)).trans hw280_10), ((HB.out.cell (World.block_lt_of_cell? w _ hw280_11)).trans hw280_11), ((HB.out.cell (World.block_lt_of_cell? w _ hw280_12)).trans hw280_12), ((HB.out.cell (World.block_lt_of_cell? w _ hw280_13)).trans hw280_13)⟩ (fun hHeld => ?_)
          clear hK K
          refine norm_ (a' := ?_) ?_ ?_
          rotate_left
          ·
           show Act.put _ (some 37) _ = _
           simp only [Act.put, List.setIfInBounds_toArray, List.set_cons_zero, List.set_cons_succ, i64_w, i32_w]
           rfl
          refine pure_ (i := 25) (N := some 38) (v := ?_) (a' := ?_) q28_31 rfl rfl (any_of HT_.out (by kernel_rfl)) (fun _ _ _ h => h) (Or.inl ⟨by rfl, ?_⟩) ?_ ?_
          rotate_left
          ·
           intro w'
           go_simp
           with_reducible rfl
          rotate_left
          ·
           simp only [Act.put, List.setIfInBounds_toArray, List.set_cons_zero, List.set_cons_succ, i64_w, i32_w]
           rfl
          refine pure_ (i := 26) (N := some 39) (v := ?_) (a' := ?_) q28_32 rfl rfl (any_of HT_.out (by kernel_rfl)) (fun _ _ _ h => h) (Or.inl ⟨by rfl, ?_⟩) ?_ ?_
          rotate_left
          ·
           intro w'
           go_simp
           with_reducible rfl
          rotate_left
          ·
           simp only [Act.put, List.setIfInBounds_toArray, List.set_cons_zero, List.set_cons_succ, i64_w, i32_w]
           rfl
          refine pure_ (i := 27) (N := some 40) (v := ?_) (a' := ?_) q28_33 rfl rfl (any_of HT_.out (by kernel_rfl)) (fun _ _ _ h => h) (Or.inl ⟨by rfl, ?_⟩) ?_ ?_
          rotate_left
          ·
           intro w'
           go_simp
           with_reducible rfl
          rotate_left
          ·
           simp only [Act.put, List.setIfInBounds_toArray, List.set_cons_zero, List.set_cons_succ, i64_w, i32_w]
           rfl
          refine done_ (done_of HT_.out (by kernel_rfl)) ?_
          try go_wp2
          go_roundg k1
          case measure => have := HK1.out; omega
          case rel => exact ⟨(x6_1), (wrap64 (x6_1 + 1)), (by first | rfl | (simp; done) | (simp [*]; done)), (by first | rfl | (simp; done) | (simp [*]; done)), H', ⟨by have := HK1.out; omega⟩, ⟨gw_ HB⟩⟩
         ·
          rw [if_neg c11] at H
          have c11b0 : decide (0 < t281) = false := decide_eq_false c11
          clear c11
          have H' := Aside0.mk H
          clear H
          try go_wp2
          have n0_ := Aside0.mk (below_drew1 HB.out)
          clear HB
          have HB := n0_
          clear n0_
          have p278 : 0 ≤ (x6_1 : Int) := of_decide_eq_true (by first | (with_reducible assumption) | assumption)
          have q278 : x6_1 < (l0.length : Int) := of_decide_eq_true (by first | (with_reducible assumption) | assumption)
          obtain ⟨ad278, A278_13, c278_13, e278, hx278_0, hx278_1, hx278_2, hx278_3, hx278_4, hx278_5, hx278_6, hx278_7, hx278_8, hx278_9, hx278_10, hx278_11, hx278_12, hx278_13, hl278_13, hi278_13⟩ := at_T35 HR0.out x6_1 p278 q278
          have hw278_13 := hx278_13
          have hw278_12 := hx278_12
          have hw278_11 := hx278_11
          have hw278_10 := hx278_10
          have hw278_9 := hx278_9
          have hw278_8 := hx278_8
          have hw278_7 := hx278_7
          have hw278_6 := hx278_6
          have hw278_5 := hx278_5
          have hw278_4 := hx278_4
          have hw278_3 := hx278_3
          have hw278_2 := hx278_2
          have hw278_1 := hx278_1
          have hw278_0 := hx278_0
          cases e278
          replace hx278_0 := (HB.out.cell (World.block_lt_of_cell? w _ hx278_0)).trans hx278_0
          replace hx278_1 := (HB.out.cell (World.block_lt_of_cell? w _ hx278_1)).trans hx278_1
          replace hx278_2 := (HB.out.cell (World.block_lt_of_cell? w _ hx278_2)).trans hx278_2
          replace hx278_3 := (HB.out.cell (World.block_lt_of_cell? w _ hx278_3)).trans hx278_3
          replace hx278_4 := (HB.out.cell (World.block_lt_of_cell? w _ hx278_4)).trans hx278_4
          replace hx278_5 := (HB.out.cell (World.block_lt_of_cell? w _ hx278_5)).trans hx278_5
          replace hx278_6 := (HB.out.cell (World.block_lt_of_cell? w _ hx278_6)).trans hx278_6
          replace hx278_7 := (HB.out.cell (World.block_lt_of_cell? w _ hx278_7)).trans hx278_7
          replace hx278_8 := (HB.out.cell (World.block_lt_of_cell? w _ hx278_8)).trans hx278_8
          replace hx278_9 := (HB.out.cell (World.block_lt_of_cell? w _ hx278_9)).trans hx278_9
          replace hx278_10 := (HB.out.cell (World.block_lt_of_cell? w _ hx278_10)).trans hx278_10
          replace hx278_11 := (HB.out.cell (World.block_lt_of_cell? w _ hx278_11)).trans hx278_11
          replace hx278_12 := (HB.out.cell (World.block_lt_of_cell? w _ hx278_12)).trans hx278_12
          replace hx278_13 := (HB.out.cell (World.block_lt_of_cell? w _ hx278_13)).trans hx278_13
          have HR278_13 := Aside0.mk hi278_13
          have HC278_13 := Aside0.mk hl278_13
          clear hi278_13 hl278_13
          replace p278 := eq_true p278
          replace q278 := eq_true q278
          have p279 : 0 ≤ (x6_1 : Int) := of_decide_eq_true (by first | (with_reducible assumption) | assumption)
          have q279 : x6_1 < (l0.length : Int) := of_decide_eq_true (by first | (with_reducible assumption) | assumption)
          obtain ⟨ad279, A279_13, c279_13, e279, hx279_0, hx279_1, hx279_2, hx279_3, hx279_4, hx279_5, hx279_6, hx279_7, hx279_8, hx279_9, hx279_10, hx279_11, hx279_12, hx279_13, hl279_13, hi279_13⟩ := at_T35 HR0.out x6_1 p279 q279
          have hw279_13 := hx279_13
          have hw279_12 := hx279_12
          have hw279_11 := hx279_11
          have hw279_10 := hx279_10
          have hw279_9 := hx279_9
          have hw279_8 := hx279_8
          have hw279_7 := hx279_7
          have hw279_6 := hx279_6
          have hw279_5 := hx279_5
          have hw279_4 := hx279_4
          have hw279_3 := hx279_3
          have hw279_2 := hx279_2
          have hw279_1 := hx279_1
          have hw279_0 := hx279_0
          obtain rfl : ad278 = ad279 := (by injection e279)
          replace hx279_0 := (HB.out.cell (World.block_lt_of_cell? w _ hx279_0)).trans hx279_0
          replace hx279_1 := (HB.out.cell (World.block_lt_of_cell? w _ hx279_1)).trans hx279_1
          replace hx279_2 := (HB.out.cell (World.block_lt_of_cell? w _ hx279_2)).trans hx279_2
          replace hx279_3 := (HB.out.cell (World.block_lt_of_cell? w _ hx279_3)).trans hx279_3
          replace hx279_4 := (HB.out.cell (World.block_lt_of_cell? w _ hx279_4)).trans hx279_4
          replace hx279_5 := (HB.out.cell (World.block_lt_of_cell? w _ hx279_5)).trans hx279_5
          replace hx279_6 := (HB.out.cell (World.block_lt_of_cell? w _ hx279_6)).trans hx279_6
          replace hx279_7 := (HB.out.cell (World.block_lt_of_cell? w _ hx279_7)).trans hx279_7
          replace hx279_8 := (HB.out.cell (World.block_lt_of_cell? w _ hx279_8)).trans hx279_8
          replace hx279_9 := (HB.out.cell (World.block_lt_of_cell? w _ hx279_9)).trans hx279_9
          replace hx279_10 := (HB.out.cell (World.block_lt_of_cell? w _ hx279_10)).trans hx279_10
          replace hx279_11 := (HB.out.cell (World.block_lt_of_cell? w _ hx279_11)).trans hx279_11
          replace hx279_12 := (HB.out.cell (World.block_lt_of_cell? w _ hx279_12)).trans hx279_12
          replace hx279_13 := (HB.out.cell (World.block_lt_of_cell? w _ hx279_13)).trans hx279_13
          have HR279_13 := Aside0.mk hi279_13
          have HC279_13 := Aside0.mk hl279_13
          clear hi279_13 hl279_13
          replace p279 := eq_true p279
          replace q279 := eq_true q279
          have ea_ := Option.some.inj (hx278_13.symm.trans hx279_13)
          injection ea_ with ea_ en_ ec_
          subst ea_
          subst ec_
          clear en_
          have p280 : 0 ≤ (x5_1 : Int) := of_decide_eq_true (by first | (with_reducible assumption) | assumption)
          have q280 : x5_1 < (l0.length : Int) := of_decide_eq_true (by first | (with_reducible assumption) | assumption)
          obtain ⟨ad280, A280_13, c280_13, e280, hx280_0, hx280_1, hx280_2, hx280_3, hx280_4, hx280_5, hx280_6, hx280_7, hx280_8, hx280_9, hx280_10, hx280_11, hx280_12, hx280_13, hl280_13, hi280_13⟩ := at_T35 HR0.out x5_1 p280 q280
          have hw280_13 := hx280_13
          have hw280_12 := hx280_12
          have hw280_11 := hx280_11
          have hw280_10 := hx280_10
          have hw280_9 := hx280_9
          have hw280_8 := hx280_8
          have hw280_7 := hx280_7
          have hw280_6 := hx280_6
          have hw280_5 := hx280_5
          have hw280_4 := hx280_4
          have hw280_3 := hx280_3
          have hw280_2 := hx280_2
          have hw280_1 := hx280_1
          have hw280_0 := hx280_0
          obtain rfl : ad278 = ad280 := (by injection e280)
          replace hx280_0 := (HB.out.cell (World.block_lt_of_cell? w _ hx280_0)).trans hx280_0
          replace hx280_1 := (HB.out.cell (World.block_lt_of_cell? w _ hx280_1)).trans hx280_1
          replace hx280_2 := (HB.out.cell (World.block_lt_of_cell? w _ hx280_2)).trans hx280_2
          replace hx280_3 := (HB.out.cell (World.block_lt_of_cell? w _ hx280_3)).trans hx280_3
          replace hx280_4 := (HB.out.cell (World.block_lt_of_cell? w _ hx280_4)).trans hx280_4
          replace hx280_5 := (HB.out.cell (World.block_lt_of_cell? w _ hx280_5)).trans hx280_5
          replace hx280_6 := (HB.out.cell (World.block_lt_of_cell? w _ hx280_6)).trans hx280_6
          replace hx280_7 := (HB.out.cell (World.block_lt_of_cell? w _ hx280_7)).trans hx280_7
          replace hx280_8 := (HB.out.cell (World.block_lt_of_cell? w _ hx280_8)).trans hx280_8
          replace hx280_9 := (HB.out.cell (World.block_lt_of_cell? w _ hx280_9)).trans hx280_9
          replace hx280_10 := (HB.out.cell (World.block_lt_of_cell? w _ hx280_10)).trans hx280_10
          replace hx280_11 := (HB.out.cell (World.block_lt_of_cell? w _ hx280_11)).trans hx280_11
          replace hx280_12 := (HB.out.cell (World.block_lt_of_cell? w _ hx280_12)).trans hx280_12
          replace hx280_13 := (HB.out.cell (World.block_lt_of_cell? w _ hx280_13)).trans hx280_13
          have HR280_13 := Aside0.mk hi280_13
          have HC280_13 := Aside0.mk hl280_13
          clear hi280_13 hl280_13
          replace p280 := eq_true p280
          replace q280 := eq_true q280
          refine start_ (n := 28) (S := fun w' => w'.cell? (ad278.add ((x6_1).toNat * 14)) = some (.int .i64 ((rd_T35 l0 x6_1).f0)) ∧ w'.cell? ⟨(ad278.add ((x6_1).toNat * 14)).block, (ad278.add ((x6_1).toNat * 14)).off + 1, none⟩ = some (.int .i64 ((rd_T35 l0 x6_1).f1.f0)) ∧ w'.cell? ⟨(ad278.add ((x6_1).toNat * 14)).block, (ad278.add ((x6_1).toNat * 14)).off + 2, none⟩ = some (.int .i64 ((rd_T35 l0 x6_1).f1.f1.f0)) ∧ w'.cell? ⟨(ad278.add ((x6_1).toNat * 14)).block, (ad278.add ((x6_1).toNat * 14)).off + 3, none⟩ = some (.int .i64 ((rd_T35 l0 x6_1).f1.f1.f1)) ∧ w'.cell? ⟨(ad278.add ((x6_1).toNat * 14)).block, (ad278.add ((x6_1).toNat * 14)).off + 4, none⟩ = some (.int .i64 ((rd_T35 l0 x6_1).f1.f2.f0)) ∧ w'.cell? ⟨(ad278.add ((x6_1).toNat * 14)).block, (ad278.add ((x6_1).toNat * 14)).off + 5, none⟩ = some (.int .i64 ((rd_T35 l0 x6_1).f1.f2.f1)) ∧ w'.cell? ⟨(ad278.add ((x6_1).toNat * 14)).block, (ad278.add ((x6_1).toNat * 14)).off + 6, none⟩ = some (.int .i64 ((rd_T35 l0 x6_1).f1.f3.f0)) ∧ w'.cell? ⟨(ad278.add ((x6_1).toNat * 14)).block, (ad278.add ((x6_1).toNat * 14)).off + 7, none⟩ = some (.int .i64 ((rd_T35 l0 x6_1).f1.f3.f1)) ∧ w'.cell? ⟨(ad278.add ((x6_1).toNat * 14)).block, (ad278.add ((x6_1).toNat * 14)).off + 8, none⟩ = some (.int .i64 ((rd_T35 l0 x6_1).f1.f3.f2)) ∧ w'.cell? ⟨(ad278.add ((x6_1).toNat * 14)).block, (ad278.add ((x6_1).toNat * 14)).off + 9, none⟩ = some (.int .i64 ((rd_T35 l0 x6_1).f1.f3.f3)) ∧ w'.cell? ⟨(ad278.add ((x6_1).toNat * 14)).block, (ad278.add ((x6_1).toNat * 14)).off + 10, none⟩ = some (.int .i64 ((rd_T35 l0 x6_1).f1.f3.f4)) ∧ w'.cell? ⟨(ad278.add ((x6_1).toNat * 14)).block, (ad278.add ((x6_1).toNat * 14)).off + 11, none⟩ = some (.string ((rd_T35 l0 x6_1).f1.f3.f5)) ∧ w'.cell? ⟨(ad278.add ((x6_1).toNat * 14)).block, (ad278.add ((x6_1).toNat * 14)).off + 12, none⟩ = some (.int .i64 ((rd_T35 l0 x6_1).f1.f4.f0)) ∧ w'.cell? ⟨(ad278.add ((x6_1).toNat * 14)).block, (ad278.add ((x6_1).toNat * 14)).off + 13, none⟩ = some (.slice A278_13 ((rd_T35 l0 x6_1).f1.f4.f1).length c278_13) ∧ w'.cell? (ad278.add ((x6_1).toNat * 14)) = some (.int .i64 ((rd_T35 l0 x6_1).f0)) ∧ w'.cell? ⟨(ad278.add ((x6_1).toNat * 14)).block, (ad278.add ((x6_1).toNat * 14)).off + 1, none⟩ = some (.int .i64 ((rd_T35 l0 x6_1).f1.f0)) ∧ w'.cell? ⟨(ad278.add ((x6_1).toNat * 14)).block, (ad278.add ((x6_1).toNat * 14)).off + 2, none⟩ = some (.int .i64 ((rd_T35 l0 x6_1).f1.f1.f0)) ∧ w'.cell? ⟨(ad278.add ((x6_1).toNat * 14)).block, (ad278.add ((x6_1).toNat * 14)).off + 3, none⟩ = some (.int .i64 ((rd_T35 l0 x6_1).f1.f1.f1)) ∧ w'.cell? ⟨(ad278.add ((x6_1).toNat * 14)).block, (ad278.add ((x6_1).toNat * 14)).off + 4, none⟩ = some (.int .i64 ((rd_T35 l0 x6_1).f1.f2.f0)) ∧ w'.cell? ⟨(ad278.add ((x6_1).toNat * 14)).block, (ad278.add ((x6_1).toNat * 14)).off + 5, none⟩ = some (.int .i64 ((rd_T35 l0 x6_1).f1.f2.f1)) ∧ w'.cell? ⟨(ad278.add ((x6_1).toNat * 14)).block, (ad278.add ((x6_1).toNat * 14)).off + 6, none⟩ = some (.int .i64 ((rd_T35 l0 x6_1).f1.f3.f0)) ∧ w'.cell? ⟨(ad278.add ((x6_1).toNat * 14)).block, (ad278.add ((x6_1).toNat * 14)).off + 7, none⟩ = some (.int .i64 ((rd_T35 l0 x6_1).f1.f3.f1)) ∧ w'.cell? ⟨(ad278.add ((x6_1).toNat * 14)).block, (ad278.add ((x6_1).toNat * 14)).off + 8, none⟩ = some (.int .i64 ((rd_T35 l0 x6_1).f1.f3.f2)) ∧ w'.cell? ⟨(ad278.add ((x6_1).toNat * 14)).block, (ad278.add ((x6_1).toNat * 14)).off + 9, none⟩ = some (.int .i64 ((rd_T35 l0 x6_1).f1.f3.f3)) ∧ w'.cell? ⟨(ad278.add ((x6_1).toNat * 14)).block, (ad278.add ((x6_1).toNat * 14)).off + 10, none⟩ = some (.int .i64 ((rd_T35 l0 x6_1).f1.f3.f4)) ∧ w'.cell? ⟨(ad278.add ((x6_1).toNat * 14)).block, (ad278.add ((x6_1).toNat * 14)).off + 11, none⟩ = some (.string ((rd_T35 l0 x6_1).f1.f3.f5)) ∧ w'.cell? ⟨(ad278.add ((x6_1).toNat * 14)).block, (ad278.add ((x6_1).toNat * 14)).off + 12, none⟩ = some (.int .i64 ((rd_T35 l0 x6_1).f1.f4.f0)) ∧ w'.cell? ⟨(ad278.add ((x6_1).toNat * 14)).block, (ad278.add ((x6_1).toNat * 14)).off + 13, none⟩ = some (.slice A278_13 ((rd_T35 l0 x6_1).f1.f4.f1).length c278_13) ∧ w'.cell? (ad278.add ((x5_1).toNat * 14)) = some (.int .i64 ((rd_T35 l0 x5_1).f0)) ∧ w'.cell? ⟨(ad278.add ((x5_1).toNat * 14)).block, (ad278.add ((x5_1).toNat * 14)).off + 1, none⟩ = some (.int .i64 ((rd_T35 l0 x5_1).f1.f0)) ∧ w'.cell? ⟨(ad278.add ((x5_1).toNat * 14)).block, (ad278.add ((x5_1).toNat * 14)).off + 2, none⟩ = some (.int .i64 ((rd_T35 l0 x5_1).f1.f1.f0)) ∧ w'.cell? ⟨(ad278.add ((x5_1).toNat * 14)).block, (ad278.add ((x5_1).toNat * 14)).off + 3, none⟩ = some (.int .i64 ((rd_T35 l0 x5_1).f1.f1.f1)) ∧ w'.cell? ⟨(ad278.add ((x5_1).toNat * 14)).block, (ad278.add ((x5_1).toNat * 14)).off + 4, none⟩ = some (.int .i64 ((rd_T35 l0 x5_1).f1.f2.f0)) ∧ w'.cell? ⟨(ad278.add ((x5_1).toNat * 14)).block, (ad278.add ((x5_1).toNat * 14)).off + 5, none⟩ = some (.int .i64 ((rd_T35 l0 x5_1).f1.f2.f1)) ∧ w'.cell? ⟨(ad278.add ((x5_1).toNat * 14)).block, (ad278.add ((x5_1).toNat * 14)).off + 6, none⟩ = some (.int .i64 ((rd_T35 l0 x5_1).f1.f3.f0)) ∧ w'.cell? ⟨(ad278.add ((x5_1).toNat * 14)).block, (ad278.add ((x5_1).toNat * 14)).off + 7, none⟩ = some (.int .i64 ((rd_T35 l0 x5_1).f1.f3.f1)) ∧ w'.cell? ⟨(ad278.add ((x5_1).toNat * 14)).block, (ad278.add ((x5_1).toNat * 14)).off + 8, none⟩ = some (.int .i64 ((rd_T35 l0 x5_1).f1.f3.f2)) ∧ w'.cell? ⟨(ad278.add ((x5_1).toNat * 14)).block, (ad278.add ((x5_1).toNat * 14)).off + 9, none⟩ = some (.int .i64 ((rd_T35 l0 x5_1).f1.f3.f3)) ∧ w'.cell? ⟨(ad278.add ((x5_1).toNat * 14)).block, (ad278.add ((x5_1).toNat * 14)).off + 10, none⟩ = some (.int .i64 ((rd_T35 l0 x5_1).f1.f3.f4)) ∧ w'.cell? ⟨(ad278.add ((x5_1).toNat * 14)).block, (ad278.add ((x5_1).toNat * 14)).off + 11, none⟩ = some (.string ((rd_T35 l0 x5_1).f1.f3.f5)) ∧ w'.cell? ⟨(ad278.add ((x5_1).toNat * 14)).block, (ad278.add ((x5_1).toNat * 14)).off + 12, none⟩ = some (.int .i64 ((rd_T35 l0 x5_1).f1.f4.f0)) ∧ w'.cell? ⟨(ad278.add ((x5_1).toNat * 14)).block, (ad278.add ((x5_1).toNat * 14)).off + 13, none⟩ = some (.slice A280_13 ((rd_T35 l0 x5_1).f1.f4.f1).length c280_13)) (ds := []) q28_0 (by kernel_rfl) rfl rfl ⟨((HB.out.cell (World.block_lt_of_cell? w _ hw278_0)).trans hw278_0), ((HB.out.cell (World.block_lt_of_cell? w _ hw278_1)).trans hw278_1), ((HB.out.cell (World.block_lt_of_cell? w _ hw278_2)).trans hw278_2), ((HB.out.cell (World.block_lt_of_cell? w _ hw278_3)).trans hw278_3), ((HB.out.cell (World.block_lt_of_cell? w _ hw278_4)).trans hw278_4), ((HB.out.cell (World.block_lt_of_cell? w _ hw278_5)).trans hw278_5), ((HB.out.cell (World.block_lt_of_cell? w _ hw278_6)).trans hw278_6), ((HB.out.cell (World.block_lt_of_cell? w _ hw278_7)).trans hw278_7), ((HB.out.cell (World.block_lt_of_cell? w _ hw278_8)).trans hw278_8), ((HB.out.cell (World.block_lt_of_cell? w _ hw278_9)).trans hw278_9), ((HB.out.cell (World.block_lt_of_cell? w _ hw278_10)).trans hw278_10), ((HB.out.cell (World.block_lt_of_cell? w _ hw278_11)).trans hw278_11), ((HB.out.cell (World.block_lt_of_cell? w _ hw278_12)).trans hw278_12), ((HB.out.cell (World.block_lt_of_cell? w _ hw278_13)).trans hw278_13), ((HB.out.cell (World.block_lt_of_cell? w _ hw279_0)).trans hw279_0), ((HB.out.cell (World.block_lt_of_cell? w _ hw279_1)).trans hw279_1), ((HB.out.cell (World.block_lt_of_cell? w _ hw279_2)).trans hw279_2), ((HB.out.cell (World.block_lt_of_cell? w _ hw279_3)).trans hw279_3), ((HB.out.cell (World.block_lt_of_cell? w _ hw279_4)).trans hw279_4), ((HB.out.cell (World.block_lt_of_cell? w _ hw279_5)).trans hw279_5), ((HB.out.cell (World.block_lt_of_cell? w _ hw279_6)).trans hw279_6), ((HB.out.cell (World.block_lt_of_cell? w _ hw279_7)).trans hw279_7), ((HB.out.cell (World.block_lt_of_cell? w _ hw279_8)).trans hw279_8), ((HB.out.cell (World.block_lt_of_cell? w _ hw279_9)).trans hw279_9), ((HB.out.cell (World.block_lt_of_cell? w _ hw279_10)).trans hw279_10), ((HB.out.cell (World.block_lt_of_cell? w _ hw279_11)).trans hw279_11), ((HB.out.cell (World.block_lt_of_cell? w _ hw279_12)).trans hw279_12), ((HB.out.cell (World.block_lt_of_cell? w _ hw279_13)).trans hw279_13), ((HB.out.cell (World.block_lt_of_cell? w _ hw280_0)).trans hw280_0), ((HB.out.cell (World.block_lt_of_cell? w _ hw280_1)).trans hw280_1), ((HB.out.cell (World.block_lt_of_cell? w _ hw280_2)).trans hw280_2), ((HB.out.cell (World.block_lt_of_cell? w _ hw280_3)).trans hw280_3), ((HB.out.cell (World.block_lt_of_cell? w _ hw280_4)).trans hw280_4), ((HB.out.cell (World.block_lt_of_cell? w _ hw280_5)).trans hw280_5), ((HB.out.cell (World.block_lt_of_cell? w _ hw280_6)).trans hw280_6), ((HB.out.cell (World.block_lt_of_cell? w _ hw280_7)).trans hw280_7), ((HB.out.cell (World.block_lt_of_cell? w _ hw280_8)).trans hw280_8), ((HB.out.cell (World.block_lt_of_cell? w _ hw280_9)).trans hw280_9), ((HB.out.cell (World.block_lt_of_cell? w _ hw280_10)).trans hw280_10), ((HB.out.cell (World.block_lt_of_cell? w _ hw280_11)).trans hw280_11), ((HB.out.cell (World.block_lt_of_cell? w _ hw280_12)).trans hw280_12), ((HB.out.cell (World.block_lt_of_cell? w _ hw280_13)).trans hw280_13)⟩ (fun hHeld => ?_); refine with_tabW colloquyref10_best.tab5 colloquyref10_best.bits5 (fun HT_ HW_ => ?_)
          generalize wr.drew = w14 at HB HR278_13 HR279_13 HR280_13 hx278_0 hx278_1 hx278_10 hx278_11 hx278_12 hx278_13 hx278_2 hx278_3 hx278_4 hx278_5 hx278_6 hx278_7 hx278_8 hx278_9 hx279_0 hx279_1 hx279_10 hx279_11 hx279_12 hx279_13 hx279_2 hx279_3 hx279_4 hx279_5 hx279_6 hx279_7 hx279_8 hx279_9 hx280_0 hx280_1 hx280_10 hx280_11 hx280_12 hx280_13 hx280_2 hx280_3 hx280_4 hx280_5 hx280_6 hx280_7 hx280_8 hx280_9 hHeld ⊢
          refine pure_ (i := 0) (N := some 13) (v := ?_) (a' := ?_) q28_1 rfl rfl (any_of HT_.out (by kernel_rfl)) (fun _ _ _ h => h) (Or.inl ⟨by rfl, ?_⟩) ?_ ?_
          rotate_left
          ·
           intro w'
           go_simp
           with_reducible rfl
          rotate_left
          ·
           simp only [Act.put, List.setIfInBounds_toArray, List.set_cons_zero, List.set_cons_succ, i64_w, i32_w]
           rfl
          refine pure_ (i := 1) (N := some 14) (v := ?_) (a' := ?_) q28_2 rfl rfl (any_of HT_.out (by kernel_rfl)) (fun _ _ _ h => h) (Or.inl ⟨by rfl, ?_⟩) ?_ ?_
          rotate_left
          ·
           intro w'
           go_simp
           with_reducible rfl
          rotate_left
          ·
           simp only [Act.put, List.setIfInBounds_toArray, List.set_cons_zero, List.set_cons_succ, i64_w, i32_w]
           rfl
          refine pure_ (i := 2) (N := some 15) (v := ?_) (a' := ?_) q28_3 rfl rfl (any_of HT_.out (by kernel_rfl)) (fun _ _ _ h => h) (Or.inl ⟨by rfl, ?_⟩) ?_ ?_
          rotate_left
          ·
           intro w'
           go_simp
           with_reducible rfl
          rotate_left
          ·
           simp only [Act.put, List.setIfInBounds_toArray, List.set_cons_zero, List.set_cons_succ, i64_w, i32_w]
           rfl
          refine pure_ (i := 3) (N := some 16) (v := ?_) (a' := ?_) q28_4 rfl rfl (any_of HT_.out (by kernel_rfl)) (fun _ _ _ h => h) (Or.inl ⟨by rfl, ?_⟩) ?_ ?_
          rotate_left
          ·
           intro w'
           go_simp
           with_reducible rfl
          rotate_left
          ·
           simp only [Act.put, List.setIfInBounds_toArray, List.set_cons_zero, List.set_cons_succ, i64_w, i32_w]
           rfl
          refine pure_ (i := 4) (N := some 17) (v := ?_) (a' := ?_) q28_5 rfl rfl (any_of HT_.out (by kernel_rfl)) (fun _ _ _ h => h) (Or.inl ⟨by rfl, ?_⟩) ?_ ?_
          rotate_left
          ·
           intro w'
           go_simp
           with_reducible rfl
          rotate_left
          ·
           simp only [Act.put, List.setIfInBounds_toArray, List.set_cons_zero, List.set_cons_succ, i64_w, i32_w]
           rfl
          refine pure_ (i := 6) (N := some 19) (v := ?_) (a' := ?_) q28_6 rfl rfl (any_of HT_.out (by kernel_rfl)) (fun _ _ _ h => h) (Or.inl ⟨by rfl, ?_⟩) ?_ ?_
          rotate_left
          ·
           intro w'
           go_simp
           with_reducible rfl
          rotate_left
          ·
           simp only [Act.put, List.setIfInBounds_toArray, List.set_cons_zero, List.set_cons_succ, i64_w, i32_w]
           rfl
          refine take_ (i := 5) (N := some 18) (v := ?_) (a' := ?_) q28_7 rfl rfl (take_ofW HT_.out HW_.out (by kernel_rfl)) (fun _ _ _ h => h) (Or.inl ⟨by rfl, ?_⟩) hHeld ?_ ?_
          rotate_left
          ·
           rintro w' ⟨s0, s1, s2, s3, s4, s5, s6, s7, s8, s9, s10, s11, s12, s13, s14, s15, s16, s17, s18, s19, s20, s21, s22, s23, s24, s25, s26, s27, s28, s29, s30, s31, s32, s33, s34, s35, s36, s37, s38, s39, s40, s41⟩
           go_simp
           with_reducible rfl
          rotate_left
          ·
           simp only [Act.put, List.setIfInBounds_toArray, List.set_cons_zero, List.set_cons_succ, i64_w, i32_w]
           rfl
          refine pure_ (i := 7) (N := some 20) (v := ?_) (a' := ?_) q28_8 rfl rfl (any_of HT_.out (by kernel_rfl)) (fun _ _ _ h => h) (Or.inl ⟨by rfl, ?_⟩) ?_ ?_
          rotate_left
          ·
           intro w'
           go_simp
           with_reducible rfl
          rotate_left
          ·
           simp only [Act.put, List.setIfInBounds_toArray, List.set_cons_zero, List.set_cons_succ, i64_w, i32_w]
           rfl
          refine pure_ (i := 8) (N := some 21) (v := ?_) (a' := ?_) q28_9 rfl rfl (any_of HT_.out (by kernel_rfl)) (fun _ _ _ h => h) (Or.inl ⟨by rfl, ?_⟩) ?_ ?_
          rotate_left
          ·
           intro w'
           go_simp
           with_reducible rfl
          rotate_left
          ·
           simp only [Act.put, List.setIfInBounds_toArray, List.set_cons_zero, List.set_cons_succ, i64_w, i32_w]
           rfl
          refine pure_ (i := 9) (N := some 22) (v := ?_) (a' := ?_) q28_10 rfl rfl (any_of HT_.out (by kernel_rfl)) (fun _ _ _ h => h) (Or.inl ⟨by rfl, ?_⟩) ?_ ?_
          rotate_left
          ·
           intro w'
           go_simp
           with_reducible rfl
          rotate_left
          ·
           simp only [Act.put, List.setIfInBounds_toArray, List.set_cons_zero, List.set_cons_succ, i64_w, i32_w]
           rfl
          refine pure_ (i := 10) (N := some 23) (v := ?_) (a' := ?_) q28_11 rfl rfl (any_of HT_.out (by kernel_rfl)) (fun _ _ _ h => h) (Or.inl ⟨by rfl, ?_⟩) ?_ ?_
          rotate_left
          ·
           intro w'
           go_simp
           with_reducible rfl
          rotate_left
          ·
           simp only [Act.put, List.setIfInBounds_toArray, List.set_cons_zero, List.set_cons_succ, i64_w, i32_w]
           rfl
          refine pure_ (i := 11) (N := some 24) (v := ?_) (a' := ?_) q28_12 rfl rfl (any_of HT_.out (by kernel_rfl)) (fun _ _ _ h => h) (Or.inl ⟨by rfl, ?_⟩) ?_ ?_
          rotate_left
          ·
           intro w'
           go_simp
           with_reducible rfl
          rotate_left
          ·
           simp only [Act.put, List.setIfInBounds_toArray, List.set_cons_zero, List.set_cons_succ, i64_w, i32_w]
           rfl
          refine pure_ (i := 12) (N := some 25) (v := ?_) (a' := ?_) q28_13 rfl rfl (any_of HT_.out (by kernel_rfl)) (fun _ _ _ h => h) (Or.inl ⟨by rfl, ?_⟩) ?_ ?_
          rotate_left
          ·
           intro w'
           go_simp
           with_reducible rfl
          rotate_left
          ·
           simp only [Act.put, List.setIfInBounds_toArray, List.set_cons_zero, List.set_cons_succ, i64_w, i32_w]
           rfl
          refine pure_ (i := 13) (N := some 26) (v := ?_) (a' := ?_) q28_14 rfl rfl (any_of HT_.out (by kernel_rfl)) (fun _ _ _ h => h) (Or.inl ⟨by rfl, ?_⟩) ?_ ?_
          rotate_left
          ·
           intro w'
           go_simp
           with_reducible rfl
          rotate_left
          ·
           simp only [Act.put, List.setIfInBounds_toArray, List.set_cons_zero, List.set_cons_succ, i64_w, i32_w]
           rfl
          refine pure_ (i := 14) (N := some 27) (v := ?_) (a' := ?_) q28_15 rfl rfl (any_of HT_.out (by kernel_rfl)) (fun _ _ _ h => h) (Or.inl ⟨by rfl, ?_⟩) ?_ ?_
          rotate_left
          ·
           intro w'
           go_simp
           with_reducible rfl
          rotate_left
          ·
           simp only [Act.put, List.setIfInBounds_toArray, List.set_cons_zero, List.set_cons_succ, i64_w, i32_w]
           rfl
          refine pure_ (i := 15) (N := some 28) (v := ?_) (a' := ?_) q28_16 rfl rfl (any_of HT_.out (by kernel_rfl)) (fun _ _ _ h => h) (Or.inl ⟨by rfl, ?_⟩) ?_ ?_
          rotate_left
          ·
           intro w'
           go_simp
           with_reducible rfl
          rotate_left
          ·
           simp only [Act.put, List.setIfInBounds_toArray, List.set_cons_zero, List.set_cons_succ, i64_w, i32_w]
           rfl
          refine pure_ (i := 16) (N := some 29) (v := ?_) (a' := ?_) q28_17 rfl rfl (any_of HT_.out (by kernel_rfl)) (fun _ _ _ h => h) (Or.inl ⟨by rfl, ?_⟩) ?_ ?_
          rotate_left
          ·
           intro w'
           go_simp
           with_reducible rfl
          rotate_left
          ·
           simp only [Act.put, List.setIfInBounds_toArray, List.set_cons_zero, List.set_cons_succ, i64_w, i32_w]
           rfl
          refine pure_ (i := 18) (N := some 31) (v := ?_) (a' := ?_) q28_18 rfl rfl (any_of HT_.out (by kernel_rfl)) (fun _ _ _ h => h) (Or.inl ⟨by rfl, ?_⟩) ?_ ?_
          rotate_left
          ·
           intro w'
           go_simp
           with_reducible rfl
          rotate_left
          ·
           simp only [Act.put, List.setIfInBounds_toArray, List.set_cons_zero, List.set_cons_succ, i64_w, i32_w]
           rfl
          refine pure_ (i := 19) (N := some 32) (v := ?_) (a' := ?_) q28_20 rfl rfl (any_of HT_.out (by kernel_rfl)) (fun _ _ _ h => h) (Or.inl ⟨by rfl, ?_⟩) ?_ ?_
          rotate_left
          ·
           intro w'
           go_simp
           with_reducible rfl
          rotate_left
          ·
           simp only [Act.put, List.setIfInBounds_toArray, List.set_cons_zero, List.set_cons_succ, i64_w, i32_w]
           rfl
          refine pure_ (i := 20) (N := some 33) (v := ?_) (a' := ?_) q28_22 rfl rfl (any_of HT_.out (by kernel_rfl)) (fun _ _ _ h => h) (Or.inl ⟨by rfl, ?_⟩) ?_ ?_
          rotate_left
          ·
           intro w'
           go_simp
           with_reducible rfl
          rotate_left
          ·
           simp only [Act.put, List.setIfInBounds_toArray, List.set_cons_zero, List.set_cons_succ, i64_w, i32_w]
           rfl
          refine pure_ (i := 21) (N := some 34) (v := ?_) (a' := ?_) q28_24 rfl rfl (any_of HT_.out (by kernel_rfl)) (fun _ _ _ h => h) (Or.inl ⟨by rfl, ?_⟩) ?_ ?_
          rotate_left
          ·
           intro w'
           go_simp
           with_reducible rfl
          rotate_left
          ·
           simp only [Act.put, List.setIfInBounds_toArray, List.set_cons_zero, List.set_cons_succ, i64_w, i32_w]
           rfl
          refine pure_ (i := 22) (N := some 35) (v := ?_) (a' := ?_) q28_26 rfl rfl (any_of HT_.out (by kernel_rfl)) (fun _ _ _ h => h) (Or.inl ⟨by rfl, ?_⟩) ?_ ?_
          rotate_left
          ·
           intro w'
           go_simp
           with_reducible rfl
          rotate_left
          ·
           simp only [Act.put, List.setIfInBounds_toArray, List.set_cons_zero, List.set_cons_succ, i64_w, i32_w]
           rfl
          refine take_ (i := 17) (N := some 30) (v := ?_) (a' := ?_) q28_28 rfl rfl (take_ofW HT_.out HW_.out (by kernel_rfl)) (fun _ _ _ h => h) (Or.inl ⟨by rfl, ?_⟩) hHeld ?_ ?_
          rotate_left
          ·
           rintro w' ⟨s0, s1, s2, s3, s4, s5, s6, s7, s8, s9, s10, s11, s12, s13, s14, s15, s16, s17, s18, s19, s20, s21, s22, s23, s24, s25, s26, s27, s28, s29, s30, s31, s32, s33, s34, s35, s36, s37, s38, s39, s40, s41⟩
           go_simp
           with_reducible rfl
          rotate_left
          ·
           simp only [Act.put, List.setIfInBounds_toArray, List.set_cons_zero, List.set_cons_succ, i64_w, i32_w]
           rfl
          refine take_ (i := 23) (N := some 36) (v := ?_) (a' := ?_) q28_29 rfl rfl (take_ofW HT_.out HW_.out (by kernel_rfl)) (fun _ _ _ h => h) (Or.inl ⟨by rfl, ?_⟩) hHeld ?_ ?_
          rotate_left
          ·
           rintro w' ⟨s0, s1, s2, s3, s4, s5, s6, s7, s8, s9, s10, s11, s12, s13, s14, s15, s16, s17, s18, s19, s20, s21, s22, s23, s24, s25, s26, s27, s28, s29, s30, s31, s32, s33, s34, s35, s36, s37, s38, s39, s40, s41⟩
           go_simp
           with_reducible rfl
          rotate_left
          ·
           simp only [Act.put, List.setIfInBounds_toArray, List.set_cons_zero, List.set_cons_succ, i64_w, i32_w]
           rfl
          refine one_ (i := 24) (N := some 37) q28_30 rfl rfl (one_of HT_.out (by kernel_rfl)) (by decide) (fun K hK => ?_)
          refine goes_ Try.func29 (by kernel_rfl) rfl #[.agg #[.int .i64 ((rd_T35 l0 x6_1).f1.f2.f0), .int .i64 ((rd_T35 l0 x6_1).f1.f2.f1)], .agg #[.int .i64 ((rd_T35 l0 x5_1).f1.f2.f0), .int .i64 ((rd_T35 l0 x5_1).f1.f2.f1)]] (by rfl) rfl rfl (by (try simp only [List.map_toArray, List.map_cons, List.map_nil]); first | done | rfl | (simp only [List.length_drop, List.length_take]; rfl)) ?_
          with_reducible refine (colloquyref07_Cmp.calls k1 ((rd_T35 l0 x6_1).f1.f2.f0) ((rd_T35 l0 x6_1).f1.f2.f1) ((rd_T35 l0 x5_1).f1.f2.f0) ((rd_T35 l0 x5_1).f1.f2.f1) t281 _ A10.out).mono ?_
          rintro e w15 ⟨rfl, hb⟩
          refine ⟨_, rfl, ?_⟩
          have n0_ := Aside0.mk (below_step (gw_ HB) hb)
          clear HB
          have HB := n0_
          clear n0_
          (try clear hb)
          (try clear hb2)
          (try clear hk)
          (try clear hi)
          refine hK.out _ _ ⟨((HB.out.cell (World.block_lt_of_cell? w _ hw278_0)).trans hw278_0), ((HB.out.cell (World.block_lt_of_cell? w _ hw278_1)).trans hw278_1), ((HB.out.cell (World.block_lt_of_cell? w _ hw278_2)).trans hw278_2), ((HB.out.cell (World.block_lt_of_cell? w _ hw278_3)).trans hw278_3), ((HB.out.cell (World.block_lt_of_cell? w _ hw278_4)).trans hw278_4), ((HB.out.cell (World.block_lt_of_cell? w _ hw278_5)).trans hw278_5), ((HB.out.cell (World.block_lt_of_cell? w _ hw278_6)).trans hw278_6), ((HB.out.cell (World.block_lt_of_cell? w _ hw278_7)).trans hw278_7), ((HB.out.cell (World.block_lt_of_cell? w _ hw278_8)).trans hw278_8), ((HB.out.cell (World.block_lt_of_cell? w _ hw278_9)).trans hw278_9), ((HB.out.cell (World.block_lt_of_cell? w _ hw278_10)).trans hw278_10), ((HB.out.cell (World.block_lt_of_cell? w _ hw278_11)).trans hw278_11), ((HB.out.cell (World.block_lt_of_cell? w _ hw278_12)).trans hw278_12), ((HB.out.cell (World.block_lt_of_cell? w _ hw278_13)).trans hw278_13), ((HB.out.cell (World.block_lt_of_cell? w _ hw279_0)).trans hw279_0), ((HB.out.cell (World.block_lt_of_cell? w _ hw279_1)).trans hw279_1), ((HB.out.cell (World.block_lt_of_cell? w _ hw279_2)).trans hw279_2), ((HB.out.cell (World.block_lt_of_cell? w _ hw279_3)).trans hw279_3), ((HB.out.cell (World.block_lt_of_cell? w _ hw279_4)).trans hw279_4), ((HB.out.cell (World.block_lt_of_cell? w _ hw279_5)).trans hw279_5), ((HB.out.cell (World.block_lt_of_cell? w _ hw279_6)).trans hw279_6), ((HB.out.cell (World.block_lt_of_cell? w _ hw279_7)).trans hw279_7), ((HB.out.cell (World.block_lt_of_cell? w _ hw279_8)).trans hw279_8), ((HB.out.cell (World.block_lt_of_cell? w _ hw279_9)).trans hw279_9), ((HB.out.cell (World.block_lt_of_cell? w _ hw279_10)).trans hw279_10), ((HB.out.cell (World.block_lt_of_cell? w _ hw279_11)).trans hw279_11), ((HB.out.cell (World.block_lt_of_cell? w _ hw279_12)).trans hw279_12), ((HB.out.cell (World.block_lt_of_cell? w _ hw279_13)).trans hw279_13), ((HB.out.cell (World.block_lt_of_cell? w _ hw280_0)).trans hw280_0), ((HB.out.cell (World.block_lt_of_cell? w _ hw280_1)).trans hw280_1), ((HB.out.cell (World.block_lt_of_cell? w _ hw280_2)).trans hw280_2), ((HB.out.cell (World.block_lt_of_cell? w _ hw280_3)).trans hw280_3), ((HB.out.cell (World.block_lt_of_cell? w _ hw280_4)).trans hw280_4), ((HB.out.cell (World.block_lt_of_cell? w _ hw280_5)).trans hw280_5), ((HB.out.cell (World.block_lt_of_cell? w _ hw280_6)).trans hw280_6), ((HB.out.cell (World.block_lt_of_cell? w _ hw280_7)).trans hw280_7), ((HB.out.cell (World.block_lt_of_cell? w _ hw280_8)).trans hw280_8), ((HB.out.cell (World.block_lt_of_cell? w _ hw280_9)).trans hw280_9), ((HB.out.cell (World.block_lt_of_cell? w _ hw280_10)).trans hw280_10), ((HB.out.cell (World.block_lt_of_cell? w _ hw280_11)).trans hw280_11), ((HB.out.cell (World.block_lt_of_cell? w _ hw280_12)).trans hw280_12), ((HB.out.cell (World.block_lt_of_cell? w _ hw280_13)).trans hw280_13)⟩ (fun hHeld => ?_)
          clear hK K
          refine norm_ (a' := ?_) ?_ ?_
          rotate_left
          ·
           show Act.put _ (some 37) _ = _
           simp only [Act.put, List.setIfInBounds_toArray, List.set_cons_zero, List.set_cons_succ, i64_w, i32_w]
           rfl
          refine pure_ (i := 25) (N := some 38) (v := ?_) (a' := ?_) q28_31 rfl rfl (any_of HT_.out (by kernel_rfl)) (fun _ _ _ h => h) (Or.inl ⟨by rfl, ?_⟩) ?_ ?_
          rotate_left
          ·
           intro w'
           go_simp
           with_reducible rfl
          rotate_left
          ·
           simp only [Act.put, List.setIfInBounds_toArray, List.set_cons_zero, List.set_cons_succ, i64_w, i32_w]
           rfl
          refine pure_ (i := 26) (N := some 39) (v := ?_) (a' := ?_) q28_32 rfl rfl (any_of HT_.out (by kernel_rfl)) (fun _ _ _ h => h) (Or.inl ⟨by rfl, ?_⟩) ?_ ?_
          rotate_left
          ·
           intro w'
           go_simp
           with_reducible rfl
          rotate_left
          ·
           simp only [Act.put, List.setIfInBounds_toArray, List.set_cons_zero, List.set_cons_succ, i64_w, i32_w]
           rfl
          refine pure_ (i := 27) (N := some 40) (v := ?_) (a' := ?_) q28_33 rfl rfl (any_of HT_.out (by kernel_rfl)) (fun _ _ _ h => h) (Or.inl ⟨by rfl, ?_⟩) ?_ ?_
          rotate_left
          ·
           intro w'
           go_simp
           with_reducible rfl
          rotate_left
          ·
           simp only [Act.put, List.setIfInBounds_toArray, List.set_cons_zero, List.set_cons_succ, i64_w, i32_w]
           rfl
          refine done_ (done_of HT_.out (by kernel_rfl)) ?_
          try go_wp2
          go_roundg k1
          case measure => have := HK1.out; omega
          case rel => exact ⟨(x5_1), (wrap64 (x6_1 + 1)), (by first | rfl | (simp; done) | (simp [*]; done)), (by first | rfl | (simp; done) | (simp [*]; done)), H', ⟨by have := HK1.out; omega⟩, ⟨gw_ HB⟩⟩
        ·
         rw [if_neg c9] at H
         exact absurd H (by simp)
       ·
        rw [if_neg c8] at H
        exact absurd H (by simp)
     ·
      rw [if_neg c5] at H
      have c5b0 : (((rd_T35 l0 x6_1).f1.f0) == a1) = false := beq_eq_false_iff_ne.mpr c5
      have c5b1 : (((rd_T35 l0 x6_1).f1.f0) != a1) = true := bne_iff_ne.mpr c5
      have H' := Aside0.mk H
      clear H
      try go_wp2
      have n0_ := Aside0.mk (below_drew1 HB.out)
      clear HB
      have HB := n0_
      clear n0_
      have p278 : 0 ≤ (x6_1 : Int) := of_decide_eq_true (by first | (with_reducible assumption) | assumption)
      have q278 : x6_1 < (l0.length : Int) := of_decide_eq_true (by first | (with_reducible assumption) | assumption)
      obtain ⟨ad278, A278_13, c278_13, e278, hx278_0, hx278_1, hx278_2, hx278_3, hx278_4, hx278_5, hx278_6, hx278_7, hx278_8, hx278_9, hx278_10, hx278_11, hx278_12, hx278_13, hl278_13, hi278_13⟩ := at_T35 HR0.out x6_1 p278 q278
      have hw278_13 := hx278_13
      have hw278_12 := hx278_12
      have hw278_11 := hx278_11
      have hw278_10 := hx278_10
      have hw278_9 := hx278_9
      have hw278_8 := hx278_8
      have hw278_7 := hx278_7
      have hw278_6 := hx278_6
      have hw278_5 := hx278_5
      have hw278_4 := hx278_4
      have hw278_3 := hx278_3
      have hw278_2 := hx278_2
      have hw278_1 := hx278_1
      have hw278_0 := hx278_0
      cases e278
      replace hx278_0 := (HB.out.cell (World.block_lt_of_cell? w _ hx278_0)).trans hx278_0
      replace hx278_1 := (HB.out.cell (World.block_lt_of_cell? w _ hx278_1)).trans hx278_1
      replace hx278_2 := (HB.out.cell (World.block_lt_of_cell? w _ hx278_2)).trans hx278_2
      replace hx278_3 := (HB.out.cell (World.block_lt_of_cell? w _ hx278_3)).trans hx278_3
      replace hx278_4 := (HB.out.cell (World.block_lt_of_cell? w _ hx278_4)).trans hx278_4
      replace hx278_5 := (HB.out.cell (World.block_lt_of_cell? w _ hx278_5)).trans hx278_5
      replace hx278_6 := (HB.out.cell (World.block_lt_of_cell? w _ hx278_6)).trans hx278_6
      replace hx278_7 := (HB.out.cell (World.block_lt_of_cell? w _ hx278_7)).trans hx278_7
      replace hx278_8 := (HB.out.cell (World.block_lt_of_cell? w _ hx278_8)).trans hx278_8
      replace hx278_9 := (HB.out.cell (World.block_lt_of_cell? w _ hx278_9)).trans hx278_9
      replace hx278_10 := (HB.out.cell (World.block_lt_of_cell? w _ hx278_10)).trans hx278_10
      replace hx278_11 := (HB.out.cell (World.block_lt_of_cell? w _ hx278_11)).trans hx278_11
      replace hx278_12 := (HB.out.cell (World.block_lt_of_cell? w _ hx278_12)).trans hx278_12
      replace hx278_13 := (HB.out.cell (World.block_lt_of_cell? w _ hx278_13)).trans hx278_13
      have HR278_13 := Aside0.mk hi278_13
      have HC278_13 := Aside0.mk hl278_13
      clear hi278_13 hl278_13
      replace p278 := eq_true p278
      replace q278 := eq_true q278
      refine start_ (n := 28) (S := fun w' => w'.cell? (ad278.add ((x6_1).toNat * 14)) = some (.int .i64 ((rd_T35 l0 x6_1).f0)) ∧ w'.cell? ⟨(ad278.add ((x6_1).toNat * 14)).block, (ad278.add ((x6_1).toNat * 14)).off + 1, none⟩ = some (.int .i64 ((rd_T35 l0 x6_1).f1.f0)) ∧ w'.cell? ⟨(ad278.add ((x6_1).toNat * 14)).block, (ad278.add ((x6_1).toNat * 14)).off + 2, none⟩ = some (.int .i64 ((rd_T35 l0 x6_1).f1.f1.f0)) ∧ w'.cell? ⟨(ad278.add ((x6_1).toNat * 14)).block, (ad278.add ((x6_1).toNat * 14)).off + 3, none⟩ = some (.int .i64 ((rd_T35 l0 x6_1).f1.f1.f1)) ∧ w'.cell? ⟨(ad278.add ((x6_1).toNat * 14)).block, (ad278.add ((x6_1).toNat * 14)).off + 4, none⟩ = some (.int .i64 ((rd_T35 l0 x6_1).f1.f2.f0)) ∧ w'.cell? ⟨(ad278.add ((x6_1).toNat * 14)).block, (ad278.add ((x6_1).toNat * 14)).off + 5, none⟩ = some (.int .i64 ((rd_T35 l0 x6_1).f1.f2.f1)) ∧ w'.cell? ⟨(ad278.add ((x6_1).toNat * 14)).block, (ad278.add ((x6_1).toNat * 14)).off + 6, none⟩ = some (.int .i64 ((rd_T35 l0 x6_1).f1.f3.f0)) ∧ w'.cell? ⟨(ad278.add ((x6_1).toNat * 14)).block, (ad278.add ((x6_1).toNat * 14)).off + 7, none⟩ = some (.int .i64 ((rd_T35 l0 x6_1).f1.f3.f1)) ∧ w'.cell? ⟨(ad278.add ((x6_1).toNat * 14)).block, (ad278.add ((x6_1).toNat * 14)).off + 8, none⟩ = some (.int .i64 ((rd_T35 l0 x6_1).f1.f3.f2)) ∧ w'.cell? ⟨(ad278.add ((x6_1).toNat * 14)).block, (ad278.add ((x6_1).toNat * 14)).off + 9, none⟩ = some (.int .i64 ((rd_T35 l0 x6_1).f1.f3.f3)) ∧ w'.cell? ⟨(ad278.add ((x6_1).toNat * 14)).block, (ad278.add ((x6_1).toNat * 14)).off + 10, none⟩ = some (.int .i64 ((rd_T35 l0 x6_1).f1.f3.f4)) ∧ w'.cell? ⟨(ad278.add ((x6_1).toNat * 14)).block, (ad278.add ((x6_1).toNat * 14)).off + 11, none⟩ = some (.string ((rd_T35 l0 x6_1).f1.f3.f5)) ∧ w'.cell? ⟨(ad278.add ((x6_1).toNat * 14)).block, (ad278.add ((x6_1).toNat * 14)).off + 12, none⟩ = some (.int .i64 ((rd_T35 l0 x6_1).f1.f4.f0)) ∧ w'.cell? ⟨(ad278.add ((x6_1).toNat * 14)).block, (ad278.add ((x6_1).toNat * 14)).off + 13, none⟩ = some (.slice A278_13 ((rd_T35 l0 x6_1).f1.f4.f1).length c278_13)) (ds := []) q28_0 (by kernel_rfl) rfl rfl ⟨((HB.out.cell (World.block_lt_of_cell? w _ hw278_0)).trans hw278_0), ((HB.out.cell (World.block_lt_of_cell? w _ hw278_1)).trans hw278_1), ((HB.out.cell (World.block_lt_of_cell? w _ hw278_2)).trans hw278_2), ((HB.out.cell (World.block_lt_of_cell? w _ hw278_3)).trans hw278_3), ((HB.out.cell (World.block_lt_of_cell? w _ hw278_4)).trans hw278_4), ((HB.out.cell (World.block_lt_of_cell? w _ hw278_5)).trans hw278_5), ((HB.out.cell (World.block_lt_of_cell? w _ hw278_6)).trans hw278_6), ((HB.out.cell (World.block_lt_of_cell? w _ hw278_7)).trans hw278_7), ((HB.out.cell (World.block_lt_of_cell? w _ hw278_8)).trans hw278_8), ((HB.out.cell (World.block_lt_of_cell? w _ hw278_9)).trans hw278_9), ((HB.out.cell (World.block_lt_of_cell? w _ hw278_10)).trans hw278_10), ((HB.out.cell (World.block_lt_of_cell? w _ hw278_11)).trans hw278_11), ((HB.out.cell (World.block_lt_of_cell? w _ hw278_12)).trans hw278_12), ((HB.out.cell (World.block_lt_of_cell? w _ hw278_13)).trans hw278_13)⟩ (fun hHeld => ?_); refine with_tabW colloquyref10_best.tab5 colloquyref10_best.bits5 (fun HT_ HW_ => ?_)
      generalize wr.drew = w16 at HB HR278_13 hx278_0 hx278_1 hx278_10 hx278_11 hx278_12 hx278_13 hx278_2 hx278_3 hx278_4 hx278_5 hx278_6 hx278_7 hx278_8 hx278_9 hHeld ⊢
      refine pure_ (i := 0) (N := some 13) (v := ?_) (a' := ?_) q28_1 rfl rfl (any_of HT_.out (by kernel_rfl)) (fun _ _ _ h => h) (Or.inl ⟨by rfl, ?_⟩) ?_ ?_
      rotate_left
      ·
       intro w'
       go_simp
       with_reducible rfl
      rotate_left
      ·
       simp only [Act.put, List.setIfInBounds_toArray, List.set_cons_zero, List.set_cons_succ, i64_w, i32_w]
       rfl
      refine pure_ (i := 1) (N := some 14) (v := ?_) (a' := ?_) q28_2 rfl rfl (any_of HT_.out (by kernel_rfl)) (fun _ _ _ h => h) (Or.inl ⟨by rfl, ?_⟩) ?_ ?_
      rotate_left
      ·
       intro w'
       go_simp
       with_reducible rfl
      rotate_left
      ·
       simp only [Act.put, List.setIfInBounds_toArray, List.set_cons_zero, List.set_cons_succ, i64_w, i32_w]
       rfl
      refine pure_ (i := 2) (N := some 15) (v := ?_) (a' := ?_) q28_3 rfl rfl (any_of HT_.out (by kernel_rfl)) (fun _ _ _ h => h) (Or.inl ⟨by rfl, ?_⟩) ?_ ?_
      rotate_left
      ·
       intro w'
       go_simp
       with_reducible rfl
      rotate_left
      ·
       simp only [Act.put, List.setIfInBounds_toArray, List.set_cons_zero, List.set_cons_succ, i64_w, i32_w]
       rfl
      refine pure_ (i := 3) (N := some 16) (v := ?_) (a' := ?_) q28_4 rfl rfl (any_of HT_.out (by kernel_rfl)) (fun _ _ _ h => h) (Or.inl ⟨by rfl, ?_⟩) ?_ ?_
      rotate_left
      ·
       intro w'
       go_simp
       with_reducible rfl
      rotate_left
      ·
       simp only [Act.put, List.setIfInBounds_toArray, List.set_cons_zero, List.set_cons_succ, i64_w, i32_w]
       rfl
      refine pure_ (i := 4) (N := some 17) (v := ?_) (a' := ?_) q28_5 rfl rfl (any_of HT_.out (by kernel_rfl)) (fun _ _ _ h => h) (Or.inl ⟨by rfl, ?_⟩) ?_ ?_
      rotate_left
      ·
       intro w'
       go_simp
       with_reducible rfl
      rotate_left
      ·
       simp only [Act.put, List.setIfInBounds_toArray, List.set_cons_zero, List.set_cons_succ, i64_w, i32_w]
       rfl
      refine pure_ (i := 6) (N := some 19) (v := ?_) (a' := ?_) q28_6 rfl rfl (any_of HT_.out (by kernel_rfl)) (fun _ _ _ h => h) (Or.inl ⟨by rfl, ?_⟩) ?_ ?_
      rotate_left
      ·
       intro w'
       go_simp
       with_reducible rfl
      rotate_left
      ·
       simp only [Act.put, List.setIfInBounds_toArray, List.set_cons_zero, List.set_cons_succ, i64_w, i32_w]
       rfl
      refine take_ (i := 5) (N := some 18) (v := ?_) (a' := ?_) q28_7 rfl rfl (take_ofW HT_.out HW_.out (by kernel_rfl)) (fun _ _ _ h => h) (Or.inl ⟨by rfl, ?_⟩) hHeld ?_ ?_
      rotate_left
      ·
       rintro w' ⟨s0, s1, s2, s3, s4, s5, s6, s7, s8, s9, s10, s11, s12, s13⟩
       go_simp
       with_reducible rfl
      rotate_left
      ·
       simp only [Act.put, List.setIfInBounds_toArray, List.set_cons_zero, List.set_cons_succ, i64_w, i32_w]
       rfl
      refine pure_ (i := 7) (N := some 20) (v := ?_) (a' := ?_) q28_8 rfl rfl (any_of HT_.out (by kernel_rfl)) (fun _ _ _ h => h) (Or.inl ⟨by rfl, ?_⟩) ?_ ?_
      rotate_left
      ·
       intro w'
       go_simp
       with_reducible rfl
      rotate_left
      ·
       simp only [Act.put, List.setIfInBounds_toArray, List.set_cons_zero, List.set_cons_succ, i64_w, i32_w]
       rfl
      refine pure_ (i := 8) (N := some 21) (v := ?_) (a' := ?_) q28_9 rfl rfl (any_of HT_.out (by kernel_rfl)) (fun _ _ _ h => h) (Or.inl ⟨by rfl, ?_⟩) ?_ ?_
      rotate_left
      ·
       intro w'
       go_simp
       with_reducible rfl
      rotate_left
      ·
       simp only [Act.put, List.setIfInBounds_toArray, List.set_cons_zero, List.set_cons_succ, i64_w, i32_w]
       rfl
      refine pure_ (i := 9) (N := some 22) (v := undef) (a' := ?_) q28_10 rfl rfl (any_of HT_.out (by kernel_rfl)) (fun _ _ _ h => h) (Or.inr ⟨by rfl, rfl⟩) ?_ ?_
      rotate_left
      ·
       simp only [Act.put, List.setIfInBounds_toArray, List.set_cons_zero, List.set_cons_succ, i64_w, i32_w]
       rfl
      refine pure_ (i := 10) (N := some 23) (v := undef) (a' := ?_) q28_11 rfl rfl (any_of HT_.out (by kernel_rfl)) (fun _ _ _ h => h) (Or.inr ⟨by rfl, rfl⟩) ?_ ?_
      rotate_left
      ·
       simp only [Act.put, List.setIfInBounds_toArray, List.set_cons_zero, List.set_cons_succ, i64_w, i32_w]
       rfl
      refine pure_ (i := 11) (N := some 24) (v := undef) (a' := ?_) q28_12 rfl rfl (any_of HT_.out (by kernel_rfl)) (fun _ _ _ h => h) (Or.inr ⟨by rfl, rfl⟩) ?_ ?_
      rotate_left
      ·
       simp only [Act.put, List.setIfInBounds_toArray, List.set_cons_zero, List.set_cons_succ, i64_w, i32_w]
       rfl
      refine pure_ (i := 12) (N := some 25) (v := undef) (a' := ?_) q28_13 rfl rfl (any_of HT_.out (by kernel_rfl)) (fun _ _ _ h => h) (Or.inr ⟨by rfl, rfl⟩) ?_ ?_
      rotate_left
      ·
       simp only [Act.put, List.setIfInBounds_toArray, List.set_cons_zero, List.set_cons_succ, i64_w, i32_w]
       rfl
      refine pure_ (i := 13) (N := some 26) (v := undef) (a' := ?_) q28_14 rfl rfl (any_of HT_.out (by kernel_rfl)) (fun _ _ _ h => h) (Or.inr ⟨by rfl, rfl⟩) ?_ ?_
      rotate_left
      ·
       simp only [Act.put, List.setIfInBounds_toArray, List.set_cons_zero, List.set_cons_succ, i64_w, i32_w]
       rfl
      refine pure_ (i := 14) (N := some 27) (v := undef) (a' := ?_) q28_15 rfl rfl (any_of HT_.out (by kernel_rfl)) (fun _ _ _ h => h) (Or.inr ⟨by rfl, rfl⟩) ?_ ?_
      rotate_left
      ·
       simp only [Act.put, List.setIfInBounds_toArray, List.set_cons_zero, List.set_cons_succ, i64_w, i32_w]
       rfl
      refine pure_ (i := 15) (N := some 28) (v := undef) (a' := ?_) q28_16 rfl rfl (any_of HT_.out (by kernel_rfl)) (fun _ _ _ h => h) (Or.inr ⟨by rfl, rfl⟩) ?_ ?_
      rotate_left
      ·
       simp only [Act.put, List.setIfInBounds_toArray, List.set_cons_zero, List.set_cons_succ, i64_w, i32_w]
       rfl
      refine pure_ (i := 16) (N := some 29) (v := undef) (a' := ?_) q28_17 rfl rfl (any_of HT_.out (by kernel_rfl)) (fun _ _ _ h => h) (Or.inr ⟨by rfl, rfl⟩) ?_ ?_
      rotate_left
      ·
       simp only [Act.put, List.setIfInBounds_toArray, List.set_cons_zero, List.set_cons_succ, i64_w, i32_w]
       rfl
      refine pure_ (i := 17) (N := some 30) (v := undef) (a' := ?_) q28_19 rfl rfl (any_of HT_.out (by kernel_rfl)) (fun _ _ _ h => h) (Or.inr ⟨by rfl, rfl⟩) ?_ ?_
      rotate_left
      ·
       simp only [Act.put, List.setIfInBounds_toArray, List.set_cons_zero, List.set_cons_succ, i64_w, i32_w]
       rfl
      refine pure_ (i := 18) (N := some 31) (v := undef) (a' := ?_) q28_21 rfl rfl (any_of HT_.out (by kernel_rfl)) (fun _ _ _ h => h) (Or.inr ⟨by rfl, rfl⟩) ?_ ?_
      rotate_left
      ·
       simp only [Act.put, List.setIfInBounds_toArray, List.set_cons_zero, List.set_cons_succ, i64_w, i32_w]
       rfl
      refine pure_ (i := 19) (N := some 32) (v := undef) (a' := ?_) q28_23 rfl rfl (any_of HT_.out (by kernel_rfl)) (fun _ _ _ h => h) (Or.inr ⟨by rfl, rfl⟩) ?_ ?_
      rotate_left
      ·
       simp only [Act.put, List.setIfInBounds_toArray, List.set_cons_zero, List.set_cons_succ, i64_w, i32_w]
       rfl
      refine pure_ (i := 20) (N := some 33) (v := undef) (a' := ?_) q28_25 rfl rfl (any_of HT_.out (by kernel_rfl)) (fun _ _ _ h => h) (Or.inr ⟨by rfl, rfl⟩) ?_ ?_
      rotate_left
      ·
       simp only [Act.put, List.setIfInBounds_toArray, List.set_cons_zero, List.set_cons_succ, i64_w, i32_w]
       rfl
      refine pure_ (i := 21) (N := some 34) (v := undef) (a' := ?_) q28_27 rfl rfl (any_of HT_.out (by kernel_rfl)) (fun _ _ _ h => h) (Or.inr ⟨by rfl, rfl⟩) ?_ ?_
      rotate_left
      ·
       simp only [Act.put, List.setIfInBounds_toArray, List.set_cons_zero, List.set_cons_succ, i64_w, i32_w]
       rfl
      refine pure_ (i := 22) (N := some 35) (v := undef) (a' := ?_) q28_28 rfl rfl (any_of HT_.out (by kernel_rfl)) (fun _ _ _ h => h) (Or.inr ⟨by rfl, rfl⟩) ?_ ?_
      rotate_left
      ·
       simp only [Act.put, List.setIfInBounds_toArray, List.set_cons_zero, List.set_cons_succ, i64_w, i32_w]
       rfl
      refine pure_ (i := 23) (N := some 36) (v := undef) (a' := ?_) q28_29 rfl rfl (any_of HT_.out (by kernel_rfl)) (fun _ _ _ h => h) (Or.inr ⟨by rfl, rfl⟩) ?_ ?_
      rotate_left
      ·
       simp only [Act.put, List.setIfInBounds_toArray, List.set_cons_zero, List.set_cons_succ, i64_w, i32_w]
       rfl
      refine pure_ (i := 24) (N := some 37) (v := undef) (a' := ?_) q28_30 rfl rfl (any_of HT_.out (by kernel_rfl)) (fun _ _ _ h => h) (Or.inr ⟨by rfl, rfl⟩) ?_ ?_
      rotate_left
      ·
       simp only [Act.put, List.setIfInBounds_toArray, List.set_cons_zero, List.set_cons_succ, i64_w, i32_w]
       rfl
      refine pure_ (i := 25) (N := some 38) (v := undef) (a' := ?_) q28_31 rfl rfl (any_of HT_.out (by kernel_rfl)) (fun _ _ _ h => h) (Or.inr ⟨by rfl, rfl⟩) ?_ ?_
      rotate_left
      ·
       simp only [Act.put, List.setIfInBounds_toArray, List.set_cons_zero, List.set_cons_succ, i64_w, i32_w]
       rfl
      refine pure_ (i := 26) (N := some 39) (v := undef) (a' := ?_) q28_32 rfl rfl (any_of HT_.out (by kernel_rfl)) (fun _ _ _ h => h) (Or.inr ⟨by rfl, rfl⟩) ?_ ?_
      rotate_left
      ·
       simp only [Act.put, List.setIfInBounds_toArray, List.set_cons_zero, List.set_cons_succ, i64_w, i32_w]
       rfl
      refine pure_ (i := 27) (N := some 40) (v := ?_) (a' := ?_) q28_33 rfl rfl (any_of HT_.out (by kernel_rfl)) (fun _ _ _ h => h) (Or.inl ⟨by rfl, ?_⟩) ?_ ?_
      rotate_left
      ·
       intro w'
       go_simp
       with_reducible rfl
      rotate_left
      ·
       simp only [Act.put, List.setIfInBounds_toArray, List.set_cons_zero, List.set_cons_succ, i64_w, i32_w]
       rfl
      refine done_ (done_of HT_.out (by kernel_rfl)) ?_
      try go_wp2
      go_roundg k1
      case measure => have := HK1.out; omega
      case rel => exact ⟨(x5_1), (wrap64 (x6_1 + 1)), (by first | rfl | (simp; done) | (simp [*]; done)), (by first | rfl | (simp; done) | (simp [*]; done)), H', ⟨by have := HK1.out; omega⟩, ⟨gw_ HB⟩⟩
    ·
     rw [if_neg c4] at H
     exact absurd H (by simp)
   ·
    rw [if_neg c3] at H
    have c3b0 : decide (x6_1 < (l0.length : Int)) = false := decide_eq_false c3
    clear c3
    obtain rfl := Option.some.inj H
    go_wp2
    go_ret
    exact ⟨by first | rfl | (simp [errW_none, errW_some] <;> rfl) | (simp [*, errW_none, errW_some] <;> rfl), gw_ HB⟩

end Go.Proofs.Ytomgiaakhpemaaa.P
