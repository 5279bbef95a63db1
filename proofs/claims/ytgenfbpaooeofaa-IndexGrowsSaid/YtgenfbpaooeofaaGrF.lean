/- The law IndexGrows: its plain function and contract, written by a program of this session; no condition but each contract's own. -/
import Derived.Test.YtgenfbpaooeofaaPx0
import Derived.Test.YtgenfbpaooeofaaPx4
import Derived.Test.YtgenfbpaooeofaaPx5
import Derived.Test.YtgenfbpaooeofaaPx6
import Derived.Test.YtgenfbpaooeofaaPx10
import Derived.Test.YtgenfbpaooeofaaGr
namespace Go.Proofs.Ytgenfbpaooeofaa.P
open Go.RowKit Go.Proofs.YtgenfbpaooeofaaW.PrintWords Go.Proofs.YtgenfbpaooeofaaW.PrintLast Go.Proofs.YtgenfbpaooeofaaW.PrintMore
attribute [local go_sem] max2_int min2_int max_two min_two max_three min_three max_four min_four   -- for this text's walks alone
set_option linter.unusedVariables false
set_option linter.unusedSimpArgs false

set_option maxHeartbeats 8000000 in
set_option maxRecDepth 100000 in
theorem colloquylaw08_IndexGrows.callsF (k : Nat) (A0 : Option Addr) (c0 : Nat) (l0 : List (S29)) (a1_0 : Int) (a1_1 : Int) (a1_2 : Int) (a1_3 : Int) (a1_4 : Int) (a1_5 : Int) (a1_6 : Int) (a1_7 : ByteArray) (a1_8 : Int) (a2_0 : Int) (a2_1 : Int) (a2_2 : Int) (a2_3 : Int) (a2_4 : Int) (a2_5 : ByteArray) (a3_0 : Int) (a3_1 : Int) (a4 : Int) (r : Bool) (w : World) (hr0 : Kd.C k29 w A0 l0.length l0) (hc0 : l0.length ≤ c0) (hrt : r = true) (hI : keys_Interfere.f a1_2 a1_3 a1_4 a1_5 a1_6 a1_7 a2_0 a2_1 a2_2 a2_3 a2_4 a2_5 = some false) (h : colloquylaw08_IndexGrows.f k l0 a1_0 a1_1 a1_2 a1_3 a1_4 a1_5 a1_6 a1_7 a1_8 a2_0 a2_1 a2_2 a2_3 a2_4 a2_5 a3_0 a3_1 a4 = some r) :
  Calls Try.prog 8 #[.slice A0 l0.length c0, .agg #[.int .i64 a1_0, .int .i64 a1_1, .int .i64 a1_2, .int .i64 a1_3, .int .i64 a1_4, .int .i64 a1_5, .int .i64 a1_6, .string a1_7, .int .i64 a1_8], .agg #[.int .i64 a2_0, .int .i64 a2_1, .int .i64 a2_2, .int .i64 a2_3, .int .i64 a2_4, .string a2_5], .agg #[.int .i64 a3_0, .int .i64 a3_1], .int .i64 a4] w fun e w' => e = .returned (.bool r) ∧ Below w.heap.size w w' := by
 have HI_ := Aside0.mk hI
 clear hI
 have hu29 := Try.underlying29
 have hu24 := Try.underlying24
 have hu26 := Try.underlying26
 have hu32 := Try.underlying32
 have HRT := Aside0.mk hrt
 clear hrt
 have HR0 := Aside0.mk hr0
 have HC0 := Aside0.mk hc0
 clear hr0 hc0
 have HB := Aside0.mk (Below.refl w.heap.size w)
 have H : ((colloquylaw08_awake.f).bind fun t222 => (if t222 = true then (if (l0.length : Int) > 60 then (colloquylaw08_IndexGrows.j0 k l0 a4 t222 true a1_0 a1_1 a1_2 a1_3 a1_4 a1_5 a1_6 a1_7 a1_8 a2_0 a2_1 a2_2 a2_3 a2_4 a2_5 a3_0 a3_1) else (colloquylaw08_IndexGrows.j0 k l0 a4 t222 (decide (a1_8 > 1099511627776)) a1_0 a1_1 a1_2 a1_3 a1_4 a1_5 a1_6 a1_7 a1_8 a2_0 a2_1 a2_2 a2_3 a2_4 a2_5 a3_0 a3_1)) else (colloquylaw08_IndexGrows.j0 k l0 a4 t222 true a1_0 a1_1 a1_2 a1_3 a1_4 a1_5 a1_6 a1_7 a1_8 a2_0 a2_1 a2_2 a2_3 a2_4 a2_5 a3_0 a3_1))) = some r := h
 clear h
 replace H := Option.bind_eq_some_iff.mp H
 obtain ⟨t222, A60, H⟩ := H
 replace H : (if t222 = true then (if (l0.length : Int) > 60 then (colloquylaw08_IndexGrows.j0 k l0 a4 t222 true a1_0 a1_1 a1_2 a1_3 a1_4 a1_5 a1_6 a1_7 a1_8 a2_0 a2_1 a2_2 a2_3 a2_4 a2_5 a3_0 a3_1) else (colloquylaw08_IndexGrows.j0 k l0 a4 t222 (decide (a1_8 > 1099511627776)) a1_0 a1_1 a1_2 a1_3 a1_4 a1_5 a1_6 a1_7 a1_8 a2_0 a2_1 a2_2 a2_3 a2_4 a2_5 a3_0 a3_1)) else (colloquylaw08_IndexGrows.j0 k l0 a4 t222 true a1_0 a1_1 a1_2 a1_3 a1_4 a1_5 a1_6 a1_7 a1_8 a2_0 a2_1 a2_2 a2_3 a2_4 a2_5 a3_0 a3_1)) = some r := H
 have A6 := Aside0.mk A60
 clear A60
 have HC7 := Aside0.mk H
 clear H
 go_enter Try.func8, Try.ntmps8
 go_upto_region 2 with (first | ((with_reducible refine gate_dst (N := 6) rfl ?_); (try (refine gate_guard (by rfl) ?_; dsimp only)); refine box_event ?hg (N := 6) ?hd (cs := #[.int .i64 a1_0, .int .i64 a1_1, .int .i64 a1_2, .int .i64 a1_3, .int .i64 a1_4, .int .i64 a1_5, .int .i64 a1_6, .string a1_7, .int .i64 a1_8]) (t := 29) ?hr ?_; (case hd => rfl); (case hg => rfl); (case hr => first | (go_simp; done) | (go_simp; rfl)); intro gb219 hg w8 hbox hb; have s_ := step_size_ (gw_ HB) hb hg; have n0_ := Aside0.mk s_.1; have n1_ := Aside0.mk (hbox); have n2_ := Aside0.mk s_.2; clear s_; have n3_ := n2_; clear HB; have HB := n0_; have BK219 := n1_; have GW219 := n2_; have GE219 := n3_; clear n0_ n1_ n2_ n3_; clear hb hbox hg) | ((with_reducible refine gate_dst (N := 7) rfl ?_); (try (refine gate_guard (by rfl) ?_; dsimp only)); refine box_event ?hg (N := 7) ?hd (cs := #[.int .i64 a2_0, .int .i64 a2_1, .int .i64 a2_2, .int .i64 a2_3, .int .i64 a2_4, .string a2_5]) (t := 24) ?hr ?_; (case hd => rfl); (case hg => rfl); (case hr => first | (go_simp; done) | (go_simp; rfl)); intro gb220 hg w9 hbox hb; have n0_ := Aside0.mk (blk_below (g := gb219) (bk BK219) hb); have s_ := step_size_ (gw_ HB) hb hg; have n1_ := Aside0.mk s_.1; have n2_ := Aside0.mk (hbox); have n3_ := Aside0.mk s_.2; clear s_; have n4_ := n3_; have l_ := blk_lt_ (g := gb219) hg (bk BK219); have n5_ := Aside0.mk (Nat.ne_of_lt l_); have n6_ := Aside0.mk (Nat.ne_of_gt l_); clear l_; clear BK219; clear HB; have BK219 := n0_; have HB := n1_; have BK220 := n2_; have GW220 := n3_; have GE220 := n4_; have NB219_220 := n5_; have NB220_219 := n6_; clear n0_ n1_ n2_ n3_ n4_ n5_ n6_; clear hb hbox hg) | ((with_reducible refine gate_dst (N := 8) rfl ?_); (try (refine gate_guard (by rfl) ?_; dsimp only)); refine box_event ?hg (N := 8) ?hd (cs := #[.int .i64 a3_0, .int .i64 a3_1]) (t := 26) ?hr ?_; (case hd => rfl); (case hg => rfl); (case hr => first | (go_simp; done) | (go_simp; rfl)); intro gb221 hg w10 hbox hb; have n0_ := Aside0.mk (blk_below (g := gb219) (bk BK219) hb); have n1_ := Aside0.mk (blk_below (g := gb220) (bk BK220) hb); have s_ := step_size_ (gw_ HB) hb hg; have n2_ := Aside0.mk s_.1; have n3_ := Aside0.mk (hbox); have n4_ := Aside0.mk s_.2; clear s_; have n5_ := n4_; have l_ := blk_lt_ (g := gb219) hg (bk BK219); have n6_ := Aside0.mk (Nat.ne_of_lt l_); have n7_ := Aside0.mk (Nat.ne_of_gt l_); clear l_; have l_ := blk_lt_ (g := gb220) hg (bk BK220); have n8_ := Aside0.mk (Nat.ne_of_lt l_); have n9_ := Aside0.mk (Nat.ne_of_gt l_); clear l_; clear BK219; clear BK220; clear HB; have BK219 := n0_; have BK220 := n1_; have HB := n2_; have BK221 := n3_; have GW221 := n4_; have GE221 := n5_; have NB219_221 := n6_; have NB221_219 := n7_; have NB220_221 := n8_; have NB221_220 := n9_; clear n0_ n1_ n2_ n3_ n4_ n5_ n6_ n7_ n8_ n9_; clear hb hbox hg) | ((with_reducible refine gate_callee (f := 9) rfl ?_); refine goesL_ (some 15) rfl rfl Try.func9 (by kernel_rfl) rfl #[] rfl (by (try simp only [List.map_toArray, List.map_cons, List.map_nil]); first | done | rfl | (simp only [List.length_drop, List.length_take]; rfl)) ?_; (with_reducible refine (colloquylaw08_awake.calls  t222 _ A6.out).mono ?_); rintro e w11 ⟨rfl, hb⟩; refine ⟨_, rfl, ?_⟩; have n0_ := Aside0.mk (blk_below (g := gb219) (bk BK219) hb); have n1_ := Aside0.mk (blk_below (g := gb220) (bk BK220) hb); have n2_ := Aside0.mk (blk_below (g := gb221) (bk BK221) hb); have n3_ := Aside0.mk (below_step (gw_ HB) hb); clear BK219; clear BK220; clear BK221; clear HB; have BK219 := n0_; have BK220 := n1_; have BK221 := n2_; have HB := n3_; clear n0_ n1_ n2_ n3_; (try clear hb); (try clear hb2); (try clear hk); (try clear hi)))
 (try simp only [Act.put, List.setIfInBounds_toArray, List.set_cons_zero, List.set_cons_succ])
 go_cut [27] (fun v27 wc => ∃ (kq : Nat) (x27_6 : Bool), v27 = .bool x27_6 ∧ Aside0 (colloquylaw08_IndexGrows.j0 kq l0 a4 t222 x27_6 a1_0 a1_1 a1_2 a1_3 a1_4 a1_5 a1_6 a1_7 a1_8 a2_0 a2_1 a2_2 a2_3 a2_4 a2_5 a3_0 a3_1 = some r) ∧ Aside0 (kq ≤ k) ∧ Aside0 (wc.heap[gb219]? = some (.cells #[.int .i64 a1_0, .int .i64 a1_1, .int .i64 a1_2, .int .i64 a1_3, .int .i64 a1_4, .int .i64 a1_5, .int .i64 a1_6, .string a1_7, .int .i64 a1_8] 29 (0, 0))) ∧ Aside0 (wc.heap[gb220]? = some (.cells #[.int .i64 a2_0, .int .i64 a2_1, .int .i64 a2_2, .int .i64 a2_3, .int .i64 a2_4, .string a2_5] 24 (0, 0))) ∧ Aside0 (wc.heap[gb221]? = some (.cells #[.int .i64 a3_0, .int .i64 a3_1] 26 (0, 0))) ∧ Aside0 (Below w.heap.size w wc))
 case first =>
  have H := HC7.out
  clear HC7
  by_cases c12 : t222 = true
  ·
   subst c12
   have H1 : (if (l0.length : Int) > 60 then (colloquylaw08_IndexGrows.j0 k l0 a4 true true a1_0 a1_1 a1_2 a1_3 a1_4 a1_5 a1_6 a1_7 a1_8 a2_0 a2_1 a2_2 a2_3 a2_4 a2_5 a3_0 a3_1) else (colloquylaw08_IndexGrows.j0 k l0 a4 true (decide (a1_8 > 1099511627776)) a1_0 a1_1 a1_2 a1_3 a1_4 a1_5 a1_6 a1_7 a1_8 a2_0 a2_1 a2_2 a2_3 a2_4 a2_5 a3_0 a3_1)) = some r := by rw [if_pos rfl] at H; exact H
   clear H
   have H := H1
   clear H1
   by_cases c13 : (l0.length : Int) > 60
   ·
    rw [if_pos c13] at H
    have c13b0 : decide (60 < (l0.length : Int)) = true := decide_eq_true c13
    have c13b1 : decide (60 < l0.length) = true := decide_eq_true (by omega)
    clear c13
    (first | rw [c13b0] | (simp only [i64_w, i32_w]; rw [c13b0]) | skip)
    have H' := Aside0.mk H
    clear H
    go_wp2
    go_meet
    case rel => exact ⟨_, (true), (by first | rfl | (simp; done) | (simp [*]; done)), H', ⟨by first | omega | exact Nat.le_refl _⟩, ⟨by (with_reducible repeat (first | refine blk_drewN ?_ _ | refine blk_drew ?_ | refine blk_alloc ?_ _)); exact BK219.out⟩, ⟨by (with_reducible repeat (first | refine blk_drewN ?_ _ | refine blk_drew ?_ | refine blk_alloc ?_ _)); exact BK220.out⟩, ⟨by (with_reducible repeat (first | refine blk_drewN ?_ _ | refine blk_drew ?_ | refine blk_alloc ?_ _)); exact BK221.out⟩, ⟨gw_ HB⟩⟩
   ·
    rw [if_neg c13] at H
    have c13b0 : decide (60 < (l0.length : Int)) = false := decide_eq_false c13
    have c13b1 : decide (60 < l0.length) = false := decide_eq_false (by omega)
    clear c13
    (first | rw [c13b0] | (simp only [i64_w, i32_w]; rw [c13b0]) | skip)
    have H' := Aside0.mk H
    clear H
    have hnb14 := NB219_220.out
    have hnc14 := NB220_219.out
    have hnb15 := NB219_221.out
    have hnc15 := NB221_219.out
    obtain ⟨hcz16_0, hcz16_1, hcz16_2, hcz16_3, hcz16_4, hcz16_5, hcz16_6, hcz16_7, hcz16_8⟩ := blk_cells9 BK219.out
    obtain ⟨hfz16_0, hfz16_1, hfz16_2, hfz16_3, hfz16_4, hfz16_5, hfz16_6, hfz16_7, hfz16_8⟩ := blk_frozens9 BK219.out
    go_wp2
    go_meet
    case rel => exact ⟨_, (decide (a1_8 > 1099511627776)), (by first | rfl | (simp; done) | (simp [*]; done)), H', ⟨by first | omega | exact Nat.le_refl _⟩, ⟨by (with_reducible repeat (first | refine blk_drewN ?_ _ | refine blk_drew ?_ | refine blk_alloc ?_ _)); exact BK219.out⟩, ⟨by (with_reducible repeat (first | refine blk_drewN ?_ _ | refine blk_drew ?_ | refine blk_alloc ?_ _)); exact BK220.out⟩, ⟨by (with_reducible repeat (first | refine blk_drewN ?_ _ | refine blk_drew ?_ | refine blk_alloc ?_ _)); exact BK221.out⟩, ⟨gw_ HB⟩⟩
  ·
   replace c12 := Bool.eq_false_iff.mpr c12
   subst c12
   have H1 : (colloquylaw08_IndexGrows.j0 k l0 a4 false true a1_0 a1_1 a1_2 a1_3 a1_4 a1_5 a1_6 a1_7 a1_8 a2_0 a2_1 a2_2 a2_3 a2_4 a2_5 a3_0 a3_1) = some r := by rw [if_neg (show ¬ (false = true) by decide)] at H; exact H
   clear H
   have H := H1
   clear H1
   have H' := Aside0.mk H
   clear H
   go_wp2
   go_meet
   case rel => exact ⟨_, (true), (by first | rfl | (simp; done) | (simp [*]; done)), H', ⟨by first | omega | exact Nat.le_refl _⟩, ⟨by (with_reducible repeat (first | refine blk_drewN ?_ _ | refine blk_drew ?_ | refine blk_alloc ?_ _)); exact BK219.out⟩, ⟨by (with_reducible repeat (first | refine blk_drewN ?_ _ | refine blk_drew ?_ | refine blk_alloc ?_ _)); exact BK220.out⟩, ⟨by (with_reducible repeat (first | refine blk_drewN ?_ _ | refine blk_drew ?_ | refine blk_alloc ?_ _)); exact BK221.out⟩, ⟨gw_ HB⟩⟩
 case rest =>
  clear HC7
  try clear c1
  try clear p2
  try clear c8
  try clear c9
  try clear c12
  try clear c13
  try clear c13b0
  try clear c13b1
  try clear c14
  try clear c15
  try clear hcz16_0
  try clear hcz16_1
  try clear hcz16_2
  try clear hcz16_3
  try clear hcz16_4
  try clear hcz16_5
  try clear hcz16_6
  try clear hcz16_7
  try clear hcz16_8
  try clear hfz16_0
  try clear hfz16_1
  try clear hfz16_2
  try clear hfz16_3
  try clear hfz16_4
  try clear hfz16_5
  try clear hfz16_6
  try clear hfz16_7
  try clear hfz16_8
  obtain ⟨kq, x27_6, rfl, HA, HJ6, BK219, BK220, BK221, HB⟩ := hcut
  cases kq with
  | zero => exact absurd HA.out (by simp [colloquylaw08_IndexGrows.j0])
  | succ kj6 =>
   have H := HA.out
   clear HA
   simp only [colloquylaw08_IndexGrows.j0] at H
   by_cases c17 : x27_6 = true
   ·
    subst c17
    have H1 : (some t222) = some r := by rw [if_pos rfl] at H; exact H
    clear H
    have H := H1
    clear H1
    obtain rfl := Option.some.inj H
    go_wp2
    go_ret
    exact ⟨by first | rfl | (simp [errW_none, errW_some] <;> rfl) | (simp [*, errW_none, errW_some] <;> rfl), gw_ HB⟩
   ·
    replace c17 := Bool.eq_false_iff.mpr c17
    subst c17
    have H1 : (colloquylaw08_IndexGrows.l0 kj6 l0 a4 0 a1_0 a1_1 a1_2 a1_3 a1_4 a1_5 a1_6 a1_7 a1_8 a2_0 a2_1 a2_2 a2_3 a2_4 a2_5 a3_0 a3_1) = some r := by rw [if_neg (show ¬ (false = true) by decide)] at H; exact H
    clear H
    have H := H1
    clear H1
    have H' := Aside0.mk H
    clear H
    go_wp2
    go_loopg [12] kj6 (fun kq v12 w' => ∃ (x12_2 : Int), v12 = .int .i64 x12_2 ∧ Aside0 (colloquylaw08_IndexGrows.l0 kq l0 a4 x12_2 a1_0 a1_1 a1_2 a1_3 a1_4 a1_5 a1_6 a1_7 a1_8 a2_0 a2_1 a2_2 a2_3 a2_4 a2_5 a3_0 a3_1 = some r) ∧ Aside0 (kq ≤ kj6) ∧ Aside0 (w'.heap[gb219]? = some (.cells #[.int .i64 a1_0, .int .i64 a1_1, .int .i64 a1_2, .int .i64 a1_3, .int .i64 a1_4, .int .i64 a1_5, .int .i64 a1_6, .string a1_7, .int .i64 a1_8] 29 (0, 0))) ∧ Aside0 (w'.heap[gb220]? = some (.cells #[.int .i64 a2_0, .int .i64 a2_1, .int .i64 a2_2, .int .i64 a2_3, .int .i64 a2_4, .string a2_5] 24 (0, 0))) ∧ Aside0 (w'.heap[gb221]? = some (.cells #[.int .i64 a3_0, .int .i64 a3_1] 26 (0, 0))) ∧ Aside0 (Below w.heap.size w w'))
    case atStart => exact ⟨(0), (by first | rfl | (simp; done) | (simp [*]; done)), H', ⟨Nat.le_refl _⟩, ⟨by (with_reducible repeat (first | refine blk_drewN ?_ _ | refine blk_drew ?_ | refine blk_alloc ?_ _)); exact BK219.out⟩, ⟨by (with_reducible repeat (first | refine blk_drewN ?_ _ | refine blk_drew ?_ | refine blk_alloc ?_ _)); exact BK220.out⟩, ⟨by (with_reducible repeat (first | refine blk_drewN ?_ _ | refine blk_drew ?_ | refine blk_alloc ?_ _)); exact BK221.out⟩, ⟨gw_ HB⟩⟩
    case round =>
     clear H'
     try clear c1
     try clear p2
     try clear c8
     try clear c9
     try clear c12
     try clear c13
     try clear c13b0
     try clear c13b1
     try clear c14
     try clear c15
     try clear c17
     try clear hcz16_0
     try clear hcz16_1
     try clear hcz16_2
     try clear hcz16_3
     try clear hcz16_4
     try clear hcz16_5
     try clear hcz16_6
     try clear hcz16_7
     try clear hcz16_8
     try clear hfz16_0
     try clear hfz16_1
     try clear hfz16_2
     try clear hfz16_3
     try clear hfz16_4
     try clear hfz16_5
     try clear hfz16_6
     try clear hfz16_7
     try clear hfz16_8
     try clear p2
     obtain ⟨x12_2, rfl, HA, HK2, BK219, BK220, BK221, HB⟩ := hrel
     cases gk with
     | zero => exact absurd HA.out (by simp [colloquylaw08_IndexGrows.l0])
     | succ k2 =>
      have H := HA.out
      clear HA
      simp only [colloquylaw08_IndexGrows.l0] at H
      by_cases c18 : x12_2 < (l0.length : Int)
      ·
       rw [if_pos c18] at H
       have c18b0 : decide (x12_2 < (l0.length : Int)) = true := decide_eq_true c18
       clear c18
       by_cases c19 : 0 ≤ x12_2
       ·
        rw [if_pos c19] at H
        have c19b0 : decide (0 ≤ x12_2) = true := decide_eq_true c19
        clear c19
        by_cases c20 : ((rd_T29 l0 x12_2).f2) > 1099511627776
        ·
         rw [if_pos c20] at H
         have c20b0 : decide (1099511627776 < ((rd_T29 l0 x12_2).f2)) = true := decide_eq_true c20
         clear c20
         obtain rfl := Option.some.inj H
         have p223 : 0 ≤ (x12_2 : Int) := of_decide_eq_true (by first | (with_reducible assumption) | assumption)
         have q223 : x12_2 < (l0.length : Int) := of_decide_eq_true (by first | (with_reducible assumption) | assumption)
         obtain ⟨ad223, e223, hx223_0, hx223_1, hx223_2, hx223_3, hx223_4, hx223_5, hx223_6, hx223_7, hx223_8⟩ := at_T29 HR0.out x12_2 p223 q223
         cases e223
         replace hx223_0 := (HB.out.cell (World.block_lt_of_cell? w _ hx223_0)).trans hx223_0
         replace hx223_1 := (HB.out.cell (World.block_lt_of_cell? w _ hx223_1)).trans hx223_1
         replace hx223_2 := (HB.out.cell (World.block_lt_of_cell? w _ hx223_2)).trans hx223_2
         replace hx223_3 := (HB.out.cell (World.block_lt_of_cell? w _ hx223_3)).trans hx223_3
         replace hx223_4 := (HB.out.cell (World.block_lt_of_cell? w _ hx223_4)).trans hx223_4
         replace hx223_5 := (HB.out.cell (World.block_lt_of_cell? w _ hx223_5)).trans hx223_5
         replace hx223_6 := (HB.out.cell (World.block_lt_of_cell? w _ hx223_6)).trans hx223_6
         replace hx223_7 := (HB.out.cell (World.block_lt_of_cell? w _ hx223_7)).trans hx223_7
         replace hx223_8 := (HB.out.cell (World.block_lt_of_cell? w _ hx223_8)).trans hx223_8
         replace p223 := eq_true p223
         replace q223 := eq_true q223
         go_wp2
         go_ret
         exact ⟨by first | rfl | (simp [errW_none, errW_some] <;> rfl) | (simp [*, errW_none, errW_some] <;> rfl), gw_ HB⟩
        ·
         rw [if_neg c20] at H
         have c20b0 : decide (1099511627776 < ((rd_T29 l0 x12_2).f2)) = false := decide_eq_false c20
         clear c20
         have H' := Aside0.mk H
         clear H
         have p223 : 0 ≤ (x12_2 : Int) := of_decide_eq_true (by first | (with_reducible assumption) | assumption)
         have q223 : x12_2 < (l0.length : Int) := of_decide_eq_true (by first | (with_reducible assumption) | assumption)
         obtain ⟨ad223, e223, hx223_0, hx223_1, hx223_2, hx223_3, hx223_4, hx223_5, hx223_6, hx223_7, hx223_8⟩ := at_T29 HR0.out x12_2 p223 q223
         cases e223
         replace hx223_0 := (HB.out.cell (World.block_lt_of_cell? w _ hx223_0)).trans hx223_0
         replace hx223_1 := (HB.out.cell (World.block_lt_of_cell? w _ hx223_1)).trans hx223_1
         replace hx223_2 := (HB.out.cell (World.block_lt_of_cell? w _ hx223_2)).trans hx223_2
         replace hx223_3 := (HB.out.cell (World.block_lt_of_cell? w _ hx223_3)).trans hx223_3
         replace hx223_4 := (HB.out.cell (World.block_lt_of_cell? w _ hx223_4)).trans hx223_4
         replace hx223_5 := (HB.out.cell (World.block_lt_of_cell? w _ hx223_5)).trans hx223_5
         replace hx223_6 := (HB.out.cell (World.block_lt_of_cell? w _ hx223_6)).trans hx223_6
         replace hx223_7 := (HB.out.cell (World.block_lt_of_cell? w _ hx223_7)).trans hx223_7
         replace hx223_8 := (HB.out.cell (World.block_lt_of_cell? w _ hx223_8)).trans hx223_8
         replace p223 := eq_true p223
         replace q223 := eq_true q223
         go_wp2
         go_roundg k2
         case measure => have := HJ6.out; have := HK2.out; omega
         case rel => exact ⟨(wrap64 (x12_2 + 1)), (by first | rfl | (simp; done) | (simp [*]; done)), H', ⟨by have := HJ6.out; have := HK2.out; omega⟩, ⟨by (with_reducible repeat (first | refine blk_drewN ?_ _ | refine blk_drew ?_ | refine blk_alloc ?_ _)); exact BK219.out⟩, ⟨by (with_reducible repeat (first | refine blk_drewN ?_ _ | refine blk_drew ?_ | refine blk_alloc ?_ _)); exact BK220.out⟩, ⟨by (with_reducible repeat (first | refine blk_drewN ?_ _ | refine blk_drew ?_ | refine blk_alloc ?_ _)); exact BK221.out⟩, ⟨gw_ HB⟩⟩
       ·
        rw [if_neg c19] at H
        exact absurd H (by simp)
      ·
       rw [if_neg c18] at H
       have c18b0 : decide (x12_2 < (l0.length : Int)) = false := decide_eq_false c18
       clear c18
       replace H := Option.bind_eq_some_iff.mp H
       obtain ⟨⟨t224, t225⟩, A210, H⟩ := H
       replace H : (if ([] : List (S29)).length + l0.length < 1759218604441 then ((some (([] : List (S29)) ++ l0 : List (S29))).bind fun y229 => ((some (([(⟨(⟨a1_0, a1_1⟩ : S26), (⟨a1_2, a1_3, a1_4, a1_5, a1_6, a1_7⟩ : S24), a1_8⟩ : S29)] : List (S29)) : List (S29))).bind fun y232 => (if y229.length + y232.length < 1759218604441 then ((index_Of.f (y229 ++ y232) a2_0 a2_1 a2_2 a2_3 a2_4 a2_5 a3_0 a3_1 a4).bind fun bt238 => ((attr_Within.f t224 t225 bt238.1 bt238.2).bind fun t243 => (if t243 = true then ((keys_Interfere.f a1_2 a1_3 a1_4 a1_5 a1_6 a1_7 a2_0 a2_1 a2_2 a2_3 a2_4 a2_5).bind fun t244 => (if t244 = true then (some true) else ((attr_Same.f t224 t225 bt238.1 bt238.2).bind fun t245 => (some t245)))) else (some false)))) else (none)))) else (none)) = some r := H
       have A21 := Aside0.mk A210
       clear A210
       by_cases c22 : ([] : List (S29)).length + l0.length < 1759218604441
       ·
        rw [if_pos c22] at H
        have LMc22 := Aside0.mk c22
        clear c22
        obtain ⟨y229, hy229⟩ : ∃ y_ : List (S29), y_ = (([] : List (S29)) ++ l0) := ⟨_, rfl⟩
        replace H : ((some (([(⟨(⟨a1_0, a1_1⟩ : S26), (⟨a1_2, a1_3, a1_4, a1_5, a1_6, a1_7⟩ : S24), a1_8⟩ : S29)] : List (S29)) : List (S29))).bind fun y232 => (if y229.length + y232.length < 1759218604441 then ((index_Of.f (y229 ++ y232) a2_0 a2_1 a2_2 a2_3 a2_4 a2_5 a3_0 a3_1 a4).bind fun bt238 => ((attr_Within.f t224 t225 bt238.1 bt238.2).bind fun t243 => (if t243 = true then ((keys_Interfere.f a1_2 a1_3 a1_4 a1_5 a1_6 a1_7 a2_0 a2_1 a2_2 a2_3 a2_4 a2_5).bind fun t244 => (if t244 = true then (some true) else ((attr_Same.f t224 t225 bt238.1 bt238.2).bind fun t245 => (some t245)))) else (some false)))) else (none))) = some r := by first | (rw [hy229]; with_reducible exact H) | (have H2_ := (Option.bind_some _ _).symm.trans H; rw [hy229]; with_reducible exact H2_) | (have H2_ := (Option.bind_some _ _).symm.trans H; with_reducible exact H2_) | with_reducible exact H | (rw [hy229]; exact H) | exact H
        have Ny229 := Aside0.mk hy229
        clear hy229
        obtain ⟨y232, hy232⟩ : ∃ y_ : List (S29), y_ = (([(⟨(⟨a1_0, a1_1⟩ : S26), (⟨a1_2, a1_3, a1_4, a1_5, a1_6, a1_7⟩ : S24), a1_8⟩ : S29)] : List (S29))) := ⟨_, rfl⟩
        replace H : (if y229.length + y232.length < 1759218604441 then ((index_Of.f (y229 ++ y232) a2_0 a2_1 a2_2 a2_3 a2_4 a2_5 a3_0 a3_1 a4).bind fun bt238 => ((attr_Within.f t224 t225 bt238.1 bt238.2).bind fun t243 => (if t243 = true then ((keys_Interfere.f a1_2 a1_3 a1_4 a1_5 a1_6 a1_7 a2_0 a2_1 a2_2 a2_3 a2_4 a2_5).bind fun t244 => (if t244 = true then (some true) else ((attr_Same.f t224 t225 bt238.1 bt238.2).bind fun t245 => (some t245)))) else (some false)))) else (none)) = some r := by first | (rw [hy232]; with_reducible exact H) | (have H2_ := (Option.bind_some _ _).symm.trans H; rw [hy232]; with_reducible exact H2_) | (have H2_ := (Option.bind_some _ _).symm.trans H; with_reducible exact H2_) | with_reducible exact H | (rw [hy232]; exact H) | exact H
        have Ny232 := Aside0.mk hy232
        clear hy232
        by_cases c23 : y229.length + y232.length < 1759218604441
        ·
         rw [if_pos c23] at H
         have LMc23 := Aside0.mk c23
         clear c23
         obtain ⟨y235, hy235⟩ : ∃ y_ : List (S29), y_ = (y229 ++ y232) := ⟨_, rfl⟩
         replace H : ((index_Of.f y235 a2_0 a2_1 a2_2 a2_3 a2_4 a2_5 a3_0 a3_1 a4).bind fun bt238 => ((attr_Within.f t224 t225 bt238.1 bt238.2).bind fun t243 => (if t243 = true then ((keys_Interfere.f a1_2 a1_3 a1_4 a1_5 a1_6 a1_7 a2_0 a2_1 a2_2 a2_3 a2_4 a2_5).bind fun t244 => (if t244 = true then (some true) else ((attr_Same.f t224 t225 bt238.1 bt238.2).bind fun t245 => (some t245)))) else (some false)))) = some r := by first | (rw [hy235]; with_reducible exact H) | (have H2_ := (Option.bind_some _ _).symm.trans H; rw [hy235]; with_reducible exact H2_) | (have H2_ := (Option.bind_some _ _).symm.trans H; with_reducible exact H2_) | with_reducible exact H | (rw [hy235]; exact H) | exact H
         have Ny235 := Aside0.mk hy235
         clear hy235
         replace H := Option.bind_eq_some_iff.mp H
         obtain ⟨⟨t238, t239⟩, A240, H⟩ := H
         replace H : ((attr_Within.f t224 t225 t238 t239).bind fun t243 => (if t243 = true then ((keys_Interfere.f a1_2 a1_3 a1_4 a1_5 a1_6 a1_7 a2_0 a2_1 a2_2 a2_3 a2_4 a2_5).bind fun t244 => (if t244 = true then (some true) else ((attr_Same.f t224 t225 t238 t239).bind fun t245 => (some t245)))) else (some false))) = some r := H
         have A24 := Aside0.mk A240
         clear A240
         replace H := Option.bind_eq_some_iff.mp H
         obtain ⟨t243, A250, H⟩ := H
         replace H : (if t243 = true then ((keys_Interfere.f a1_2 a1_3 a1_4 a1_5 a1_6 a1_7 a2_0 a2_1 a2_2 a2_3 a2_4 a2_5).bind fun t244 => (if t244 = true then (some true) else ((attr_Same.f t224 t225 t238 t239).bind fun t245 => (some t245)))) else (some false)) = some r := H
         have A25 := Aside0.mk A250
         clear A250
         by_cases c26 : t243 = true
         ·
          subst c26
          have H1 : ((keys_Interfere.f a1_2 a1_3 a1_4 a1_5 a1_6 a1_7 a2_0 a2_1 a2_2 a2_3 a2_4 a2_5).bind fun t244 => (if t244 = true then (some true) else ((attr_Same.f t224 t225 t238 t239).bind fun t245 => (some t245)))) = some r := by rw [if_pos rfl] at H; exact H
          clear H
          have H := H1
          clear H1
          replace H := Option.bind_eq_some_iff.mp H
          obtain ⟨t244, A270, H⟩ := H
          replace H : (if t244 = true then (some true) else ((attr_Same.f t224 t225 t238 t239).bind fun t245 => (some t245))) = some r := H
          have A27 := Aside0.mk A270
          clear A270
          by_cases c28 : t244 = true
          · exact absurd (c28.symm.trans (Option.some.inj (A27.out.symm.trans HI_.out))) (by decide)
          ·
           replace c28 := Bool.eq_false_iff.mpr c28
           subst c28
           have H1 : ((attr_Same.f t224 t225 t238 t239).bind fun t245 => (some t245)) = some r := by rw [if_neg (show ¬ (false = true) by decide)] at H; exact H
           clear H
           have H := H1
           clear H1
           replace H := Option.bind_eq_some_iff.mp H
           obtain ⟨t245, A650, H⟩ := H
           replace H : (some t245) = some r := H
           have A65 := Aside0.mk A650
           clear A650
           obtain rfl := Option.some.inj H
           have hnb66 := NB220_219.out
           have hnc66 := NB219_220.out
           have hnb67 := NB220_221.out
           have hnc67 := NB221_220.out
           obtain ⟨hcz68_0, hcz68_1, hcz68_2, hcz68_3, hcz68_4, hcz68_5⟩ := blk_cells6 BK220.out
           obtain ⟨hfz68_0, hfz68_1, hfz68_2, hfz68_3, hfz68_4, hfz68_5⟩ := blk_frozens6 BK220.out
           have hnb69 := NB221_219.out
           have hnc69 := NB219_221.out
           obtain ⟨hcz70_0, hcz70_1⟩ := blk_cells2 BK221.out
           obtain ⟨hfz70_0, hfz70_1⟩ := blk_frozens2 BK221.out
           try go_wp2_with (first | ((with_reducible refine gate_callee (f := 10) rfl ?_); refine goesL_ (some 45) rfl rfl Try.func10 (by kernel_rfl) rfl #[.slice A0 l0.length c0, .agg #[.int .i64 a2_0, .int .i64 a2_1, .int .i64 a2_2, .int .i64 a2_3, .int .i64 a2_4, .string a2_5], .agg #[.int .i64 a3_0, .int .i64 a3_1], .int .i64 a4] rfl (by (try simp only [List.map_toArray, List.map_cons, List.map_nil]); first | done | rfl | (simp only [List.length_drop, List.length_take]; rfl)) ?_; (with_reducible refine (index_Of.calls _ _ l0 a2_0 a2_1 a2_2 a2_3 a2_4 a2_5 a3_0 a3_1 a4 t224 t225 _ ?side1 ?side2 A21.out).mono ?_); (case side1 => repeat (first | exact (Kd.C_below HR0.out HB.out) | (with_reducible refine Kd.C_alloc ?_ _) | (with_reducible refine Kd.C_drewN ?_ _) | (with_reducible refine Kd.C_drew ?_))); (case side2 => exact HC0.out); rintro e w71 ⟨v226, rfl, ho0, hb⟩; refine ⟨_, rfl, ?_⟩; have n0_ := Aside0.mk (Kd.R_lower ho0 (below_size (gw_ HB))); have n1_ := Aside0.mk (blk_below (g := gb219) (bk BK219) hb); have n2_ := Aside0.mk (blk_below (g := gb220) (bk BK220) hb); have n3_ := Aside0.mk (blk_below (g := gb221) (bk BK221) hb); have n4_ := Aside0.mk (below_step (gw_ HB) hb); clear BK219; clear BK220; clear BK221; clear HB; have HO227 := n0_; have BK219 := n1_; have BK220 := n2_; have BK221 := n3_; have HB := n4_; clear n0_ n1_ n2_ n3_ n4_; (try clear hb); (try clear hb2); (try clear hk); (try clear hi); (try clear ho0)) | ((with_reducible refine gate_dst (N := 13) rfl ?_); (try (refine gate_guard (by rfl) ?_; dsimp only)); refine box_event ?hg (N := 13) ?hd (cs := #[.int .i64 0, .slice none 0 0]) (t := 32) ?hr ?_; (case hd => rfl); (case hg => rfl); (case hr => first | (go_simp; done) | (go_simp; rfl)); intro gb228 hg w72 hbox hb; have n0_ := Aside0.mk (Kd.R_below (Kd.rk HO227) hb); have n1_ := Aside0.mk (blk_below (g := gb219) (bk BK219) hb); have n2_ := Aside0.mk (blk_below (g := gb220) (bk BK220) hb); have n3_ := Aside0.mk (blk_below (g := gb221) (bk BK221) hb); have s_ := step_size_ (gw_ HB) hb hg; have n4_ := Aside0.mk s_.1; have n5_ := Aside0.mk (hbox); have n6_ := Aside0.mk s_.2; clear s_; have n7_ := n6_; have l_ := blk_lt_ (g := gb219) hg (bk BK219); have n8_ := Aside0.mk (Nat.ne_of_lt l_); have n9_ := Aside0.mk (Nat.ne_of_gt l_); clear l_; have l_ := blk_lt_ (g := gb220) hg (bk BK220); have n10_ := Aside0.mk (Nat.ne_of_lt l_); have n11_ := Aside0.mk (Nat.ne_of_gt l_); clear l_; have l_ := blk_lt_ (g := gb221) hg (bk BK221); have n12_ := Aside0.mk (Nat.ne_of_lt l_); have n13_ := Aside0.mk (Nat.ne_of_gt l_); clear l_; clear HO227; clear BK219; clear BK220; clear BK221; clear HB; have HO227 := n0_; have BK219 := n1_; have BK220 := n2_; have BK221 := n3_; have HB := n4_; have BK228 := n5_; have GW228 := n6_; have GE228 := n7_; have NB219_228 := n8_; have NB228_219 := n9_; have NB220_228 := n10_; have NB228_220 := n11_; have NB221_228 := n12_; have NB228_221 := n13_; clear n0_ n1_ n2_ n3_ n4_ n5_ n6_ n7_ n8_ n9_ n10_ n11_ n12_ n13_; clear hb hbox hg; have hnb73 := NB228_219.out; have hnc73 := NB219_228.out; have hnb74 := NB228_220.out; have hnc74 := NB220_228.out; have hnb75 := NB228_221.out; have hnc75 := NB221_228.out; obtain ⟨hcz76_0, hcz76_1⟩ := blk_cells2 BK228.out; obtain ⟨hfz76_0, hfz76_1⟩ := blk_frozens2 BK228.out; obtain ⟨Ao77, co77, eo77⟩ := Kd.R_slice HO227.out; subst eo77))
           have n0_ : Aside0 (Kd.R (Kd.int .i64) 3 ((w72.setCell ⟨gb228, 0, none⟩ (.int .i64 t224)).setCell ⟨gb228, 1, none⟩ (.slice Ao77 t225.length co77)) w.heap.size (fun _ => True) (.slice Ao77 t225.length co77) t225) := ⟨by (with_reducible repeat (first | apply Kd.R_alloc | apply Kd.R_drewN | apply Kd.R_drew)); exact Kd.R_mono (Kd.R_far2 (g := gb228) (Kd.R_types HO227.out BK228.out (by decide)) (fun _ hk => hk.2)) (fun _ hk => trivial)⟩
           have n1_ : Aside0 (((w72.setCell ⟨gb228, 0, none⟩ (.int .i64 t224)).setCell ⟨gb228, 1, none⟩ (.slice Ao77 t225.length co77)).heap[gb219]? = some (.cells #[.int .i64 a1_0, .int .i64 a1_1, .int .i64 a1_2, .int .i64 a1_3, .int .i64 a1_4, .int .i64 a1_5, .int .i64 a1_6, .string a1_7, .int .i64 a1_8] 29 (0, 0))) := ⟨by (with_reducible repeat (first | refine blk_drewN ?_ _ | refine blk_drew ?_ | refine blk_alloc ?_ _)); refine blk_far ?_ NB219_228.out _; (with_reducible repeat (first | refine blk_drewN ?_ _ | refine blk_drew ?_ | refine blk_alloc ?_ _)); refine blk_far ?_ NB219_228.out _; (with_reducible repeat (first | refine blk_drewN ?_ _ | refine blk_drew ?_ | refine blk_alloc ?_ _)); exact BK219.out⟩
           have n2_ : Aside0 (((w72.setCell ⟨gb228, 0, none⟩ (.int .i64 t224)).setCell ⟨gb228, 1, none⟩ (.slice Ao77 t225.length co77)).heap[gb220]? = some (.cells #[.int .i64 a2_0, .int .i64 a2_1, .int .i64 a2_2, .int .i64 a2_3, .int .i64 a2_4, .string a2_5] 24 (0, 0))) := ⟨by (with_reducible repeat (first | refine blk_drewN ?_ _ | refine blk_drew ?_ | refine blk_alloc ?_ _)); refine blk_far ?_ NB220_228.out _; (with_reducible repeat (first | refine blk_drewN ?_ _ | refine blk_drew ?_ | refine blk_alloc ?_ _)); refine blk_far ?_ NB220_228.out _; (with_reducible repeat (first | refine blk_drewN ?_ _ | refine blk_drew ?_ | refine blk_alloc ?_ _)); exact BK220.out⟩
           have n3_ : Aside0 (((w72.setCell ⟨gb228, 0, none⟩ (.int .i64 t224)).setCell ⟨gb228, 1, none⟩ (.slice Ao77 t225.length co77)).heap[gb221]? = some (.cells #[.int .i64 a3_0, .int .i64 a3_1] 26 (0, 0))) := ⟨by (with_reducible repeat (first | refine blk_drewN ?_ _ | refine blk_drew ?_ | refine blk_alloc ?_ _)); refine blk_far ?_ NB221_228.out _; (with_reducible repeat (first | refine blk_drewN ?_ _ | refine blk_drew ?_ | refine blk_alloc ?_ _)); refine blk_far ?_ NB221_228.out _; (with_reducible repeat (first | refine blk_drewN ?_ _ | refine blk_drew ?_ | refine blk_alloc ?_ _)); exact BK221.out⟩
           have n4_ : Aside0 (((w72.setCell ⟨gb228, 0, none⟩ (.int .i64 t224)).setCell ⟨gb228, 1, none⟩ (.slice Ao77 t225.length co77)).heap[gb228]? = some (.cells #[.int .i64 t224, .slice Ao77 t225.length co77] 32 (0, 0))) := ⟨by (with_reducible repeat (first | refine blk_drewN ?_ _ | refine blk_drew ?_ | refine blk_alloc ?_ _)); refine blk_put (cs := #[.int .i64 t224, .slice none 0 0]) ?_ 1 _ rfl; (with_reducible repeat (first | refine blk_drewN ?_ _ | refine blk_drew ?_ | refine blk_alloc ?_ _)); refine blk_put (cs := #[.int .i64 0, .slice none 0 0]) ?_ 0 _ rfl; (with_reducible repeat (first | refine blk_drewN ?_ _ | refine blk_drew ?_ | refine blk_alloc ?_ _)); exact BK228.out⟩
           have n5_ : Aside0 (Below w.heap.size w ((w72.setCell ⟨gb228, 0, none⟩ (.int .i64 t224)).setCell ⟨gb228, 1, none⟩ (.slice Ao77 t225.length co77))) := ⟨gw_ HB⟩
           (try clear HO227)
           (try clear BK219)
           (try clear BK220)
           (try clear BK221)
           (try clear BK228)
           (try clear HB)
           generalize ((w72.setCell ⟨gb228, 0, none⟩ (.int .i64 t224)).setCell ⟨gb228, 1, none⟩ (.slice Ao77 t225.length co77)) = w78 at n0_ n1_ n2_ n3_ n4_ n5_ ⊢
           have HO227 := n0_
           have BK219 := n1_
           have BK220 := n2_
           have BK221 := n3_
           have BK228 := n4_
           have HB := n5_
           clear n0_ n1_ n2_ n3_ n4_ n5_
           have n0_ := Aside0.mk (Kd.R_drew HO227.out)
           have n1_ := Aside0.mk (blk_drew BK219.out)
           have n2_ := Aside0.mk (blk_drew BK220.out)
           have n3_ := Aside0.mk (blk_drew BK221.out)
           have n4_ := Aside0.mk (blk_drew BK228.out)
           have n5_ := Aside0.mk (below_drew1 HB.out)
           clear HO227
           clear BK219
           clear BK220
           clear BK221
           clear BK228
           clear HB
           have HO227 := n0_
           have BK219 := n1_
           have BK220 := n2_
           have BK221 := n3_
           have BK228 := n4_
           have HB := n5_
           clear n0_ n1_ n2_ n3_ n4_ n5_
           refine start_ (n := 11) (S := fun w' => w'.cell? ⟨gb219, 0, none⟩ = some (.int .i64 a1_0) ∧ w'.cell? ⟨gb219, 1, none⟩ = some (.int .i64 a1_1) ∧ w'.cell? ⟨gb219, 2, none⟩ = some (.int .i64 a1_2) ∧ w'.cell? ⟨gb219, 3, none⟩ = some (.int .i64 a1_3) ∧ w'.cell? ⟨gb219, 4, none⟩ = some (.int .i64 a1_4) ∧ w'.cell? ⟨gb219, 5, none⟩ = some (.int .i64 a1_5) ∧ w'.cell? ⟨gb219, 6, none⟩ = some (.int .i64 a1_6) ∧ w'.cell? ⟨gb219, 7, none⟩ = some (.string a1_7) ∧ w'.cell? ⟨gb219, 8, none⟩ = some (.int .i64 a1_8) ∧ w'.cell? ⟨gb220, 0, none⟩ = some (.int .i64 a2_0) ∧ w'.cell? ⟨gb220, 1, none⟩ = some (.int .i64 a2_1) ∧ w'.cell? ⟨gb220, 2, none⟩ = some (.int .i64 a2_2) ∧ w'.cell? ⟨gb220, 3, none⟩ = some (.int .i64 a2_3) ∧ w'.cell? ⟨gb220, 4, none⟩ = some (.int .i64 a2_4) ∧ w'.cell? ⟨gb220, 5, none⟩ = some (.string a2_5) ∧ w'.cell? ⟨gb221, 0, none⟩ = some (.int .i64 a3_0) ∧ w'.cell? ⟨gb221, 1, none⟩ = some (.int .i64 a3_1)) (ds := [10]) q8_0 (by kernel_rfl) rfl rfl ⟨(blk_cell BK219.out 0).trans rfl, (blk_cell BK219.out 1).trans rfl, (blk_cell BK219.out 2).trans rfl, (blk_cell BK219.out 3).trans rfl, (blk_cell BK219.out 4).trans rfl, (blk_cell BK219.out 5).trans rfl, (blk_cell BK219.out 6).trans rfl, (blk_cell BK219.out 7).trans rfl, (blk_cell BK219.out 8).trans rfl, (blk_cell BK220.out 0).trans rfl, (blk_cell BK220.out 1).trans rfl, (blk_cell BK220.out 2).trans rfl, (blk_cell BK220.out 3).trans rfl, (blk_cell BK220.out 4).trans rfl, (blk_cell BK220.out 5).trans rfl, (blk_cell BK221.out 0).trans rfl, (blk_cell BK221.out 1).trans rfl⟩ (fun hHeld => ?_); refine with_tabW colloquylaw08_IndexGrows.tab10 colloquylaw08_IndexGrows.bits10 (fun HT_ HW_ => ?_)
           generalize w78.drew = w79 at HO227 BK219 BK220 BK221 BK228 HB hHeld ⊢
           refine pure_ (i := 0) (N := some 46) (v := ?_) (a' := ?_) q8_1 rfl rfl (any_of HT_.out (by kernel_rfl)) (fun _ _ _ h => h) (Or.inl ⟨by rfl, ?_⟩) ?_ ?_
           rotate_left
           ·
            intro w'
            go_simp
            with_reducible rfl
           rotate_left
           ·
            simp only [Act.put, List.setIfInBounds_toArray, List.set_cons_zero, List.set_cons_succ, i64_w, i32_w]
            rfl
           refine pure_ (i := 7) (N := some 53) (v := ?_) (a' := ?_) q8_2 rfl rfl (any_of HT_.out (by kernel_rfl)) (fun _ _ _ h => h) (Or.inl ⟨by rfl, ?_⟩) ?_ ?_
           rotate_left
           ·
            intro w'
            go_simp
            with_reducible rfl
           rotate_left
           ·
            simp only [Act.put, List.setIfInBounds_toArray, List.set_cons_zero, List.set_cons_succ, i64_w, i32_w]
            rfl
           refine take_ (i := 2) (N := some 48) (v := ?_) (a' := ?_) q8_3 rfl rfl (take_ofW HT_.out HW_.out (by kernel_rfl)) (fun _ _ _ h => h) (Or.inl ⟨by rfl, ?_⟩) hHeld ?_ ?_
           rotate_left
           ·
            rintro w' ⟨s0, s1, s2, s3, s4, s5, s6, s7, s8, s9, s10, s11, s12, s13, s14, s15, s16⟩
            go_simp
            with_reducible rfl
           rotate_left
           ·
            simp only [Act.put, List.setIfInBounds_toArray, List.set_cons_zero, List.set_cons_succ, i64_w, i32_w]
            rfl
           refine take_ (i := 5) (N := some 51) (v := ?_) (a' := ?_) q8_4 rfl rfl (take_ofW HT_.out HW_.out (by kernel_rfl)) (fun _ _ _ h => h) (Or.inl ⟨by rfl, ?_⟩) hHeld ?_ ?_
           rotate_left
           ·
            rintro w' ⟨s0, s1, s2, s3, s4, s5, s6, s7, s8, s9, s10, s11, s12, s13, s14, s15, s16⟩
            go_simp
            with_reducible rfl
           rotate_left
           ·
            simp only [Act.put, List.setIfInBounds_toArray, List.set_cons_zero, List.set_cons_succ, i64_w, i32_w]
            rfl
           refine take_ (i := 6) (N := some 52) (v := ?_) (a' := ?_) q8_5 rfl rfl (take_ofW HT_.out HW_.out (by kernel_rfl)) (fun _ _ _ h => h) (Or.inl ⟨by rfl, ?_⟩) hHeld ?_ ?_
           rotate_left
           ·
            rintro w' ⟨s0, s1, s2, s3, s4, s5, s6, s7, s8, s9, s10, s11, s12, s13, s14, s15, s16⟩
            go_simp
            with_reducible rfl
           rotate_left
           ·
            simp only [Act.put, List.setIfInBounds_toArray, List.set_cons_zero, List.set_cons_succ, i64_w, i32_w]
            rfl
           refine join_ (σ := Value × Value × Value × Value × Nat) 1 q8_16 (fun s_ => [(47, s_.1), (49, s_.2.1), (50, s_.2.2.1), (54, .agg #[.int .i64 t238, s_.2.2.2.1]), (14, .pointer (some ⟨s_.2.2.2.2, 0, none⟩))]) (fun s_ w' => (w'.cell? ⟨gb219, 0, none⟩ = some (.int .i64 a1_0) ∧ w'.cell? ⟨gb219, 1, none⟩ = some (.int .i64 a1_1) ∧ w'.cell? ⟨gb219, 2, none⟩ = some (.int .i64 a1_2) ∧ w'.cell? ⟨gb219, 3, none⟩ = some (.int .i64 a1_3) ∧ w'.cell? ⟨gb219, 4, none⟩ = some (.int .i64 a1_4) ∧ w'.cell? ⟨gb219, 5, none⟩ = some (.int .i64 a1_5) ∧ w'.cell? ⟨gb219, 6, none⟩ = some (.int .i64 a1_6) ∧ w'.cell? ⟨gb219, 7, none⟩ = some (.string a1_7) ∧ w'.cell? ⟨gb219, 8, none⟩ = some (.int .i64 a1_8) ∧ w'.cell? ⟨gb220, 0, none⟩ = some (.int .i64 a2_0) ∧ w'.cell? ⟨gb220, 1, none⟩ = some (.int .i64 a2_1) ∧ w'.cell? ⟨gb220, 2, none⟩ = some (.int .i64 a2_2) ∧ w'.cell? ⟨gb220, 3, none⟩ = some (.int .i64 a2_3) ∧ w'.cell? ⟨gb220, 4, none⟩ = some (.int .i64 a2_4) ∧ w'.cell? ⟨gb220, 5, none⟩ = some (.string a2_5) ∧ w'.cell? ⟨gb221, 0, none⟩ = some (.int .i64 a3_0) ∧ w'.cell? ⟨gb221, 1, none⟩ = some (.int .i64 a3_1)) ∧ (Kd.R (Kd.int .i64) 3 w' w.heap.size (fun k_ => some k_ ≠ (s_.2.2.2.1 : Value).ownBlock) (.slice Ao77 t225.length co77) t225) ∧ (Kd.R k29 29 w' w.heap.size (fun k_ => some k_ ≠ (s_.2.2.1 : Value).ownBlock ∧ k_ ≠ gb219) s_.2.1 y232) ∧ (Kd.R k29 29 w' w.heap.size (fun k_ => some k_ ≠ (s_.2.1 : Value).ownBlock ∧ k_ ≠ gb219) s_.2.2.1 y235) ∧ (Kd.R (Kd.int .i64) 3 w' w.heap.size (fun k_ => some k_ ≠ (.slice Ao77 t225.length co77 : Value).ownBlock) s_.2.2.2.1 t239) ∧ (w'.heap[gb219]? = some (.cells #[.int .i64 a1_0, .int .i64 a1_1, .int .i64 a1_2, .int .i64 a1_3, .int .i64 a1_4, .int .i64 a1_5, .int .i64 a1_6, .string a1_7, .int .i64 a1_8] 29 (0, 0))) ∧ (w'.heap[gb220]? = some (.cells #[.int .i64 a2_0, .int .i64 a2_1, .int .i64 a2_2, .int .i64 a2_3, .int .i64 a2_4, .string a2_5] 24 (0, 0))) ∧ (w'.heap[gb221]? = some (.cells #[.int .i64 a3_0, .int .i64 a3_1] 26 (0, 0))) ∧ (w'.heap[gb228]? = some (.cells #[.int .i64 t224, .slice Ao77 t225.length co77] 32 (0, 0))) ∧ (w'.heap[s_.2.2.2.2]? = some (.cells #[.int .i64 0, .slice none 0 0] 32 (0, 0))) ∧ (w.heap.size ≤ s_.2.2.2.2) ∧ (w.heap.size ≤ s_.2.2.2.2) ∧ (gb219 ≠ s_.2.2.2.2) ∧ (s_.2.2.2.2 ≠ gb219) ∧ (gb220 ≠ s_.2.2.2.2) ∧ (s_.2.2.2.2 ≠ gb220) ∧ (gb221 ≠ s_.2.2.2.2) ∧ (s_.2.2.2.2 ≠ gb221) ∧ (gb228 ≠ s_.2.2.2.2) ∧ (s_.2.2.2.2 ≠ gb228) ∧ (Below w.heap.size w w')) ?_ ?_
           rotate_left
           ·
            intro hJ1_3_4_8_9
            refine join_ (σ := Value × Value × Value × Value) 2 q8_15 (fun s_ => [(47, s_.1), (49, s_.2.1), (50, s_.2.2.1), (54, .agg #[.int .i64 t238, s_.2.2.2])]) (fun s_ w' => (w'.cell? ⟨gb219, 0, none⟩ = some (.int .i64 a1_0) ∧ w'.cell? ⟨gb219, 1, none⟩ = some (.int .i64 a1_1) ∧ w'.cell? ⟨gb219, 2, none⟩ = some (.int .i64 a1_2) ∧ w'.cell? ⟨gb219, 3, none⟩ = some (.int .i64 a1_3) ∧ w'.cell? ⟨gb219, 4, none⟩ = some (.int .i64 a1_4) ∧ w'.cell? ⟨gb219, 5, none⟩ = some (.int .i64 a1_5) ∧ w'.cell? ⟨gb219, 6, none⟩ = some (.int .i64 a1_6) ∧ w'.cell? ⟨gb219, 7, none⟩ = some (.string a1_7) ∧ w'.cell? ⟨gb219, 8, none⟩ = some (.int .i64 a1_8) ∧ w'.cell? ⟨gb220, 0, none⟩ = some (.int .i64 a2_0) ∧ w'.cell? ⟨gb220, 1, none⟩ = some (.int .i64 a2_1) ∧ w'.cell? ⟨gb220, 2, none⟩ = some (.int .i64 a2_2) ∧ w'.cell? ⟨gb220, 3, none⟩ = some (.int .i64 a2_3) ∧ w'.cell? ⟨gb220, 4, none⟩ = some (.int .i64 a2_4) ∧ w'.cell? ⟨gb220, 5, none⟩ = some (.string a2_5) ∧ w'.cell? ⟨gb221, 0, none⟩ = some (.int .i64 a3_0) ∧ w'.cell? ⟨gb221, 1, none⟩ = some (.int .i64 a3_1)) ∧ (Kd.R (Kd.int .i64) 3 w' w.heap.size (fun k_ => some k_ ≠ (s_.2.2.2 : Value).ownBlock) (.slice Ao77 t225.length co77) t225) ∧ (Kd.R k29 29 w' w.heap.size (fun k_ => some k_ ≠ (s_.2.2.1 : Value).ownBlock ∧ k_ ≠ gb219) s_.2.1 y232) ∧ (Kd.R k29 29 w' w.heap.size (fun k_ => some k_ ≠ (s_.2.1 : Value).ownBlock ∧ k_ ≠ gb219) s_.2.2.1 y235) ∧ (Kd.R (Kd.int .i64) 3 w' w.heap.size (fun k_ => some k_ ≠ (.slice Ao77 t225.length co77 : Value).ownBlock) s_.2.2.2 t239) ∧ (w'.heap[gb219]? = some (.cells #[.int .i64 a1_0, .int .i64 a1_1, .int .i64 a1_2, .int .i64 a1_3, .int .i64 a1_4, .int .i64 a1_5, .int .i64 a1_6, .string a1_7, .int .i64 a1_8] 29 (0, 0))) ∧ (w'.heap[gb220]? = some (.cells #[.int .i64 a2_0, .int .i64 a2_1, .int .i64 a2_2, .int .i64 a2_3, .int .i64 a2_4, .string a2_5] 24 (0, 0))) ∧ (w'.heap[gb221]? = some (.cells #[.int .i64 a3_0, .int .i64 a3_1] 26 (0, 0))) ∧ (w'.heap[gb228]? = some (.cells #[.int .i64 t224, .slice Ao77 t225.length co77] 32 (0, 0))) ∧ (Below w.heap.size w w')) ?_ ?_
            rotate_left
            ·
             intro hJ1_3_4_8
             refine join_ (σ := Value × Value × Value × Nat) 2 q8_14 (fun s_ => [(47, s_.1), (49, s_.2.1), (50, s_.2.2.1), (14, .pointer (some ⟨s_.2.2.2, 0, none⟩))]) (fun s_ w' => (w'.cell? ⟨gb219, 0, none⟩ = some (.int .i64 a1_0) ∧ w'.cell? ⟨gb219, 1, none⟩ = some (.int .i64 a1_1) ∧ w'.cell? ⟨gb219, 2, none⟩ = some (.int .i64 a1_2) ∧ w'.cell? ⟨gb219, 3, none⟩ = some (.int .i64 a1_3) ∧ w'.cell? ⟨gb219, 4, none⟩ = some (.int .i64 a1_4) ∧ w'.cell? ⟨gb219, 5, none⟩ = some (.int .i64 a1_5) ∧ w'.cell? ⟨gb219, 6, none⟩ = some (.int .i64 a1_6) ∧ w'.cell? ⟨gb219, 7, none⟩ = some (.string a1_7) ∧ w'.cell? ⟨gb219, 8, none⟩ = some (.int .i64 a1_8) ∧ w'.cell? ⟨gb220, 0, none⟩ = some (.int .i64 a2_0) ∧ w'.cell? ⟨gb220, 1, none⟩ = some (.int .i64 a2_1) ∧ w'.cell? ⟨gb220, 2, none⟩ = some (.int .i64 a2_2) ∧ w'.cell? ⟨gb220, 3, none⟩ = some (.int .i64 a2_3) ∧ w'.cell? ⟨gb220, 4, none⟩ = some (.int .i64 a2_4) ∧ w'.cell? ⟨gb220, 5, none⟩ = some (.string a2_5) ∧ w'.cell? ⟨gb221, 0, none⟩ = some (.int .i64 a3_0) ∧ w'.cell? ⟨gb221, 1, none⟩ = some (.int .i64 a3_1)) ∧ (Kd.R (Kd.int .i64) 3 w' w.heap.size (fun _ => True) (.slice Ao77 t225.length co77) t225) ∧ (Kd.R k29 29 w' w.heap.size (fun k_ => some k_ ≠ (s_.2.2.1 : Value).ownBlock ∧ k_ ≠ gb219) s_.2.1 y232) ∧ (Kd.R k29 29 w' w.heap.size (fun k_ => some k_ ≠ (s_.2.1 : Value).ownBlock ∧ k_ ≠ gb219) s_.2.2.1 y235) ∧ (w'.heap[gb219]? = some (.cells #[.int .i64 a1_0, .int .i64 a1_1, .int .i64 a1_2, .int .i64 a1_3, .int .i64 a1_4, .int .i64 a1_5, .int .i64 a1_6, .string a1_7, .int .i64 a1_8] 29 (0, 0))) ∧ (w'.heap[gb220]? = some (.cells #[.int .i64 a2_0, .int .i64 a2_1, .int .i64 a2_2, .int .i64 a2_3, .int .i64 a2_4, .string a2_5] 24 (0, 0))) ∧ (w'.heap[gb221]? = some (.cells #[.int .i64 a3_0, .int .i64 a3_1] 26 (0, 0))) ∧ (w'.heap[gb228]? = some (.cells #[.int .i64 t224, .slice Ao77 t225.length co77] 32 (0, 0))) ∧ (w'.heap[s_.2.2.2]? = some (.cells #[.int .i64 0, .slice none 0 0] 32 (0, 0))) ∧ (w.heap.size ≤ s_.2.2.2) ∧ (w.heap.size ≤ s_.2.2.2) ∧ (gb219 ≠ s_.2.2.2) ∧ (s_.2.2.2 ≠ gb219) ∧ (gb220 ≠ s_.2.2.2) ∧ (s_.2.2.2 ≠ gb220) ∧ (gb221 ≠ s_.2.2.2) ∧ (s_.2.2.2 ≠ gb221) ∧ (gb228 ≠ s_.2.2.2) ∧ (s_.2.2.2 ≠ gb228) ∧ (Below w.heap.size w w')) ?_ ?_
             rotate_left
             ·
              intro hJ1_3_4_9
              refine join_ (σ := Value × Value × Value) 3 q8_13 (fun s_ => [(47, s_.1), (49, s_.2.1), (50, s_.2.2)]) (fun s_ w' => (w'.cell? ⟨gb219, 0, none⟩ = some (.int .i64 a1_0) ∧ w'.cell? ⟨gb219, 1, none⟩ = some (.int .i64 a1_1) ∧ w'.cell? ⟨gb219, 2, none⟩ = some (.int .i64 a1_2) ∧ w'.cell? ⟨gb219, 3, none⟩ = some (.int .i64 a1_3) ∧ w'.cell? ⟨gb219, 4, none⟩ = some (.int .i64 a1_4) ∧ w'.cell? ⟨gb219, 5, none⟩ = some (.int .i64 a1_5) ∧ w'.cell? ⟨gb219, 6, none⟩ = some (.int .i64 a1_6) ∧ w'.cell? ⟨gb219, 7, none⟩ = some (.string a1_7) ∧ w'.cell? ⟨gb219, 8, none⟩ = some (.int .i64 a1_8) ∧ w'.cell? ⟨gb220, 0, none⟩ = some (.int .i64 a2_0) ∧ w'.cell? ⟨gb220, 1, none⟩ = some (.int .i64 a2_1) ∧ w'.cell? ⟨gb220, 2, none⟩ = some (.int .i64 a2_2) ∧ w'.cell? ⟨gb220, 3, none⟩ = some (.int .i64 a2_3) ∧ w'.cell? ⟨gb220, 4, none⟩ = some (.int .i64 a2_4) ∧ w'.cell? ⟨gb220, 5, none⟩ = some (.string a2_5) ∧ w'.cell? ⟨gb221, 0, none⟩ = some (.int .i64 a3_0) ∧ w'.cell? ⟨gb221, 1, none⟩ = some (.int .i64 a3_1)) ∧ (Kd.R (Kd.int .i64) 3 w' w.heap.size (fun _ => True) (.slice Ao77 t225.length co77) t225) ∧ (Kd.R k29 29 w' w.heap.size (fun k_ => some k_ ≠ (s_.2.2 : Value).ownBlock ∧ k_ ≠ gb219) s_.2.1 y232) ∧ (Kd.R k29 29 w' w.heap.size (fun k_ => some k_ ≠ (s_.2.1 : Value).ownBlock ∧ k_ ≠ gb219) s_.2.2 y235) ∧ (w'.heap[gb219]? = some (.cells #[.int .i64 a1_0, .int .i64 a1_1, .int .i64 a1_2, .int .i64 a1_3, .int .i64 a1_4, .int .i64 a1_5, .int .i64 a1_6, .string a1_7, .int .i64 a1_8] 29 (0, 0))) ∧ (w'.heap[gb220]? = some (.cells #[.int .i64 a2_0, .int .i64 a2_1, .int .i64 a2_2, .int .i64 a2_3, .int .i64 a2_4, .string a2_5] 24 (0, 0))) ∧ (w'.heap[gb221]? = some (.cells #[.int .i64 a3_0, .int .i64 a3_1] 26 (0, 0))) ∧ (w'.heap[gb228]? = some (.cells #[.int .i64 t224, .slice Ao77 t225.length co77] 32 (0, 0))) ∧ (Below w.heap.size w w')) ?_ ?_
              rotate_left
              ·
               intro hJ1_3_4
               refine join_ (σ := Value × Value × Nat) 3 q8_12 (fun s_ => [(47, s_.1), (49, s_.2.1), (14, .pointer (some ⟨s_.2.2, 0, none⟩))]) (fun s_ w' => (w'.cell? ⟨gb219, 0, none⟩ = some (.int .i64 a1_0) ∧ w'.cell? ⟨gb219, 1, none⟩ = some (.int .i64 a1_1) ∧ w'.cell? ⟨gb219, 2, none⟩ = some (.int .i64 a1_2) ∧ w'.cell? ⟨gb219, 3, none⟩ = some (.int .i64 a1_3) ∧ w'.cell? ⟨gb219, 4, none⟩ = some (.int .i64 a1_4) ∧ w'.cell? ⟨gb219, 5, none⟩ = some (.int .i64 a1_5) ∧ w'.cell? ⟨gb219, 6, none⟩ = some (.int .i64 a1_6) ∧ w'.cell? ⟨gb219, 7, none⟩ = some (.string a1_7) ∧ w'.cell? ⟨gb219, 8, none⟩ = some (.int .i64 a1_8) ∧ w'.cell? ⟨gb220, 0, none⟩ = some (.int .i64 a2_0) ∧ w'.cell? ⟨gb220, 1, none⟩ = some (.int .i64 a2_1) ∧ w'.cell? ⟨gb220, 2, none⟩ = some (.int .i64 a2_2) ∧ w'.cell? ⟨gb220, 3, none⟩ = some (.int .i64 a2_3) ∧ w'.cell? ⟨gb220, 4, none⟩ = some (.int .i64 a2_4) ∧ w'.cell? ⟨gb220, 5, none⟩ = some (.string a2_5) ∧ w'.cell? ⟨gb221, 0, none⟩ = some (.int .i64 a3_0) ∧ w'.cell? ⟨gb221, 1, none⟩ = some (.int .i64 a3_1)) ∧ (Kd.R (Kd.int .i64) 3 w' w.heap.size (fun _ => True) (.slice Ao77 t225.length co77) t225) ∧ (Kd.R k29 29 w' w.heap.size (fun k_ => some k_ ≠ (s_.2.1 : Value).ownBlock ∧ k_ ≠ gb219) s_.1 y229) ∧ (Kd.R k29 29 w' w.heap.size (fun k_ => some k_ ≠ (s_.1 : Value).ownBlock ∧ k_ ≠ gb219) s_.2.1 y232) ∧ (w'.heap[gb219]? = some (.cells #[.int .i64 a1_0, .int .i64 a1_1, .int .i64 a1_2, .int .i64 a1_3, .int .i64 a1_4, .int .i64 a1_5, .int .i64 a1_6, .string a1_7, .int .i64 a1_8] 29 (0, 0))) ∧ (w'.heap[gb220]? = some (.cells #[.int .i64 a2_0, .int .i64 a2_1, .int .i64 a2_2, .int .i64 a2_3, .int .i64 a2_4, .string a2_5] 24 (0, 0))) ∧ (w'.heap[gb221]? = some (.cells #[.int .i64 a3_0, .int .i64 a3_1] 26 (0, 0))) ∧ (w'.heap[gb228]? = some (.cells #[.int .i64 t224, .slice Ao77 t225.length co77] 32 (0, 0))) ∧ (w'.heap[s_.2.2]? = some (.cells #[.int .i64 0, .slice none 0 0] 32 (0, 0))) ∧ (w.heap.size ≤ s_.2.2) ∧ (w.heap.size ≤ s_.2.2) ∧ (gb219 ≠ s_.2.2) ∧ (s_.2.2 ≠ gb219) ∧ (gb220 ≠ s_.2.2) ∧ (s_.2.2 ≠ gb220) ∧ (gb221 ≠ s_.2.2) ∧ (s_.2.2 ≠ gb221) ∧ (gb228 ≠ s_.2.2) ∧ (s_.2.2 ≠ gb228) ∧ (Below w.heap.size w w')) ?_ ?_
               rotate_left
               ·
                intro hJ1_3_9
                refine join_ (σ := Value × Value) 4 q8_11 (fun s_ => [(47, s_.1), (49, s_.2)]) (fun s_ w' => (w'.cell? ⟨gb219, 0, none⟩ = some (.int .i64 a1_0) ∧ w'.cell? ⟨gb219, 1, none⟩ = some (.int .i64 a1_1) ∧ w'.cell? ⟨gb219, 2, none⟩ = some (.int .i64 a1_2) ∧ w'.cell? ⟨gb219, 3, none⟩ = some (.int .i64 a1_3) ∧ w'.cell? ⟨gb219, 4, none⟩ = some (.int .i64 a1_4) ∧ w'.cell? ⟨gb219, 5, none⟩ = some (.int .i64 a1_5) ∧ w'.cell? ⟨gb219, 6, none⟩ = some (.int .i64 a1_6) ∧ w'.cell? ⟨gb219, 7, none⟩ = some (.string a1_7) ∧ w'.cell? ⟨gb219, 8, none⟩ = some (.int .i64 a1_8) ∧ w'.cell? ⟨gb220, 0, none⟩ = some (.int .i64 a2_0) ∧ w'.cell? ⟨gb220, 1, none⟩ = some (.int .i64 a2_1) ∧ w'.cell? ⟨gb220, 2, none⟩ = some (.int .i64 a2_2) ∧ w'.cell? ⟨gb220, 3, none⟩ = some (.int .i64 a2_3) ∧ w'.cell? ⟨gb220, 4, none⟩ = some (.int .i64 a2_4) ∧ w'.cell? ⟨gb220, 5, none⟩ = some (.string a2_5) ∧ w'.cell? ⟨gb221, 0, none⟩ = some (.int .i64 a3_0) ∧ w'.cell? ⟨gb221, 1, none⟩ = some (.int .i64 a3_1)) ∧ (Kd.R (Kd.int .i64) 3 w' w.heap.size (fun _ => True) (.slice Ao77 t225.length co77) t225) ∧ (Kd.R k29 29 w' w.heap.size (fun k_ => some k_ ≠ (s_.2 : Value).ownBlock ∧ k_ ≠ gb219) s_.1 y229) ∧ (Kd.R k29 29 w' w.heap.size (fun k_ => some k_ ≠ (s_.1 : Value).ownBlock ∧ k_ ≠ gb219) s_.2 y232) ∧ (w'.heap[gb219]? = some (.cells #[.int .i64 a1_0, .int .i64 a1_1, .int .i64 a1_2, .int .i64 a1_3, .int .i64 a1_4, .int .i64 a1_5, .int .i64 a1_6, .string a1_7, .int .i64 a1_8] 29 (0, 0))) ∧ (w'.heap[gb220]? = some (.cells #[.int .i64 a2_0, .int .i64 a2_1, .int .i64 a2_2, .int .i64 a2_3, .int .i64 a2_4, .string a2_5] 24 (0, 0))) ∧ (w'.heap[gb221]? = some (.cells #[.int .i64 a3_0, .int .i64 a3_1] 26 (0, 0))) ∧ (w'.heap[gb228]? = some (.cells #[.int .i64 t224, .slice Ao77 t225.length co77] 32 (0, 0))) ∧ (Below w.heap.size w w')) ?_ ?_
                rotate_left
                ·
                 intro hJ1_3
                 refine join_ (σ := Value × Nat) 4 q8_10 (fun s_ => [(47, s_.1), (14, .pointer (some ⟨s_.2, 0, none⟩))]) (fun s_ w' => (w'.cell? ⟨gb219, 0, none⟩ = some (.int .i64 a1_0) ∧ w'.cell? ⟨gb219, 1, none⟩ = some (.int .i64 a1_1) ∧ w'.cell? ⟨gb219, 2, none⟩ = some (.int .i64 a1_2) ∧ w'.cell? ⟨gb219, 3, none⟩ = some (.int .i64 a1_3) ∧ w'.cell? ⟨gb219, 4, none⟩ = some (.int .i64 a1_4) ∧ w'.cell? ⟨gb219, 5, none⟩ = some (.int .i64 a1_5) ∧ w'.cell? ⟨gb219, 6, none⟩ = some (.int .i64 a1_6) ∧ w'.cell? ⟨gb219, 7, none⟩ = some (.string a1_7) ∧ w'.cell? ⟨gb219, 8, none⟩ = some (.int .i64 a1_8) ∧ w'.cell? ⟨gb220, 0, none⟩ = some (.int .i64 a2_0) ∧ w'.cell? ⟨gb220, 1, none⟩ = some (.int .i64 a2_1) ∧ w'.cell? ⟨gb220, 2, none⟩ = some (.int .i64 a2_2) ∧ w'.cell? ⟨gb220, 3, none⟩ = some (.int .i64 a2_3) ∧ w'.cell? ⟨gb220, 4, none⟩ = some (.int .i64 a2_4) ∧ w'.cell? ⟨gb220, 5, none⟩ = some (.string a2_5) ∧ w'.cell? ⟨gb221, 0, none⟩ = some (.int .i64 a3_0) ∧ w'.cell? ⟨gb221, 1, none⟩ = some (.int .i64 a3_1)) ∧ (Kd.R (Kd.int .i64) 3 w' w.heap.size (fun _ => True) (.slice Ao77 t225.length co77) t225) ∧ (Kd.R k29 29 w' w.heap.size (fun k_ => k_ ≠ gb219) s_.1 y229) ∧ (w'.heap[gb219]? = some (.cells #[.int .i64 a1_0, .int .i64 a1_1, .int .i64 a1_2, .int .i64 a1_3, .int .i64 a1_4, .int .i64 a1_5, .int .i64 a1_6, .string a1_7, .int .i64 a1_8] 29 (0, 0))) ∧ (w'.heap[gb220]? = some (.cells #[.int .i64 a2_0, .int .i64 a2_1, .int .i64 a2_2, .int .i64 a2_3, .int .i64 a2_4, .string a2_5] 24 (0, 0))) ∧ (w'.heap[gb221]? = some (.cells #[.int .i64 a3_0, .int .i64 a3_1] 26 (0, 0))) ∧ (w'.heap[gb228]? = some (.cells #[.int .i64 t224, .slice Ao77 t225.length co77] 32 (0, 0))) ∧ (w'.heap[s_.2]? = some (.cells #[.int .i64 0, .slice none 0 0] 32 (0, 0))) ∧ (w.heap.size ≤ s_.2) ∧ (w.heap.size ≤ s_.2) ∧ (gb219 ≠ s_.2) ∧ (s_.2 ≠ gb219) ∧ (gb220 ≠ s_.2) ∧ (s_.2 ≠ gb220) ∧ (gb221 ≠ s_.2) ∧ (s_.2 ≠ gb221) ∧ (gb228 ≠ s_.2) ∧ (s_.2 ≠ gb228) ∧ (Below w.heap.size w w')) ?_ ?_
                 rotate_left
                 ·
                  intro hJ1_9
                  refine join_ (σ := Value × Nat) 4 q8_9 (fun s_ => [(49, s_.1), (14, .pointer (some ⟨s_.2, 0, none⟩))]) (fun s_ w' => (w'.cell? ⟨gb219, 0, none⟩ = some (.int .i64 a1_0) ∧ w'.cell? ⟨gb219, 1, none⟩ = some (.int .i64 a1_1) ∧ w'.cell? ⟨gb219, 2, none⟩ = some (.int .i64 a1_2) ∧ w'.cell? ⟨gb219, 3, none⟩ = some (.int .i64 a1_3) ∧ w'.cell? ⟨gb219, 4, none⟩ = some (.int .i64 a1_4) ∧ w'.cell? ⟨gb219, 5, none⟩ = some (.int .i64 a1_5) ∧ w'.cell? ⟨gb219, 6, none⟩ = some (.int .i64 a1_6) ∧ w'.cell? ⟨gb219, 7, none⟩ = some (.string a1_7) ∧ w'.cell? ⟨gb219, 8, none⟩ = some (.int .i64 a1_8) ∧ w'.cell? ⟨gb220, 0, none⟩ = some (.int .i64 a2_0) ∧ w'.cell? ⟨gb220, 1, none⟩ = some (.int .i64 a2_1) ∧ w'.cell? ⟨gb220, 2, none⟩ = some (.int .i64 a2_2) ∧ w'.cell? ⟨gb220, 3, none⟩ = some (.int .i64 a2_3) ∧ w'.cell? ⟨gb220, 4, none⟩ = some (.int .i64 a2_4) ∧ w'.cell? ⟨gb220, 5, none⟩ = some (.string a2_5) ∧ w'.cell? ⟨gb221, 0, none⟩ = some (.int .i64 a3_0) ∧ w'.cell? ⟨gb221, 1, none⟩ = some (.int .i64 a3_1)) ∧ (Kd.R (Kd.int .i64) 3 w' w.heap.size (fun _ => True) (.slice Ao77 t225.length co77) t225) ∧ (Kd.R k29 29 w' w.heap.size (fun k_ => k_ ≠ gb219) s_.1 y232) ∧ (w'.heap[gb219]? = some (.cells #[.int .i64 a1_0, .int .i64 a1_1, .int .i64 a1_2, .int .i64 a1_3, .int .i64 a1_4, .int .i64 a1_5, .int .i64 a1_6, .string a1_7, .int .i64 a1_8] 29 (0, 0))) ∧ (w'.heap[gb220]? = some (.cells #[.int .i64 a2_0, .int .i64 a2_1, .int .i64 a2_2, .int .i64 a2_3, .int .i64 a2_4, .string a2_5] 24 (0, 0))) ∧ (w'.heap[gb221]? = some (.cells #[.int .i64 a3_0, .int .i64 a3_1] 26 (0, 0))) ∧ (w'.heap[gb228]? = some (.cells #[.int .i64 t224, .slice Ao77 t225.length co77] 32 (0, 0))) ∧ (w'.heap[s_.2]? = some (.cells #[.int .i64 0, .slice none 0 0] 32 (0, 0))) ∧ (w.heap.size ≤ s_.2) ∧ (w.heap.size ≤ s_.2) ∧ (gb219 ≠ s_.2) ∧ (s_.2 ≠ gb219) ∧ (gb220 ≠ s_.2) ∧ (s_.2 ≠ gb220) ∧ (gb221 ≠ s_.2) ∧ (s_.2 ≠ gb221) ∧ (gb228 ≠ s_.2) ∧ (s_.2 ≠ gb228) ∧ (Below w.heap.size w w')) ?_ ?_
                  rotate_left
                  ·
                   intro hJ3_9
                   refine join_ (σ := Value) 5 q8_8 (fun s_ => [(47, s_)]) (fun s_ w' => (w'.cell? ⟨gb219, 0, none⟩ = some (.int .i64 a1_0) ∧ w'.cell? ⟨gb219, 1, none⟩ = some (.int .i64 a1_1) ∧ w'.cell? ⟨gb219, 2, none⟩ = some (.int .i64 a1_2) ∧ w'.cell? ⟨gb219, 3, none⟩ = some (.int .i64 a1_3) ∧ w'.cell? ⟨gb219, 4, none⟩ = some (.int .i64 a1_4) ∧ w'.cell? ⟨gb219, 5, none⟩ = some (.int .i64 a1_5) ∧ w'.cell? ⟨gb219, 6, none⟩ = some (.int .i64 a1_6) ∧ w'.cell? ⟨gb219, 7, none⟩ = some (.string a1_7) ∧ w'.cell? ⟨gb219, 8, none⟩ = some (.int .i64 a1_8) ∧ w'.cell? ⟨gb220, 0, none⟩ = some (.int .i64 a2_0) ∧ w'.cell? ⟨gb220, 1, none⟩ = some (.int .i64 a2_1) ∧ w'.cell? ⟨gb220, 2, none⟩ = some (.int .i64 a2_2) ∧ w'.cell? ⟨gb220, 3, none⟩ = some (.int .i64 a2_3) ∧ w'.cell? ⟨gb220, 4, none⟩ = some (.int .i64 a2_4) ∧ w'.cell? ⟨gb220, 5, none⟩ = some (.string a2_5) ∧ w'.cell? ⟨gb221, 0, none⟩ = some (.int .i64 a3_0) ∧ w'.cell? ⟨gb221, 1, none⟩ = some (.int .i64 a3_1)) ∧ (Kd.R (Kd.int .i64) 3 w' w.heap.size (fun _ => True) (.slice Ao77 t225.length co77) t225) ∧ (Kd.R k29 29 w' w.heap.size (fun k_ => k_ ≠ gb219) s_ y229) ∧ (w'.heap[gb219]? = some (.cells #[.int .i64 a1_0, .int .i64 a1_1, .int .i64 a1_2, .int .i64 a1_3, .int .i64 a1_4, .int .i64 a1_5, .int .i64 a1_6, .string a1_7, .int .i64 a1_8] 29 (0, 0))) ∧ (w'.heap[gb220]? = some (.cells #[.int .i64 a2_0, .int .i64 a2_1, .int .i64 a2_2, .int .i64 a2_3, .int .i64 a2_4, .string a2_5] 24 (0, 0))) ∧ (w'.heap[gb221]? = some (.cells #[.int .i64 a3_0, .int .i64 a3_1] 26 (0, 0))) ∧ (w'.heap[gb228]? = some (.cells #[.int .i64 t224, .slice Ao77 t225.length co77] 32 (0, 0))) ∧ (Below w.heap.size w w')) ?_ ?_
                   rotate_left
                   ·
                    intro hJ1
                    refine join_ (σ := Value) 5 q8_7 (fun s_ => [(49, s_)]) (fun s_ w' => (w'.cell? ⟨gb219, 0, none⟩ = some (.int .i64 a1_0) ∧ w'.cell? ⟨gb219, 1, none⟩ = some (.int .i64 a1_1) ∧ w'.cell? ⟨gb219, 2, none⟩ = some (.int .i64 a1_2) ∧ w'.cell? ⟨gb219, 3, none⟩ = some (.int .i64 a1_3) ∧ w'.cell? ⟨gb219, 4, none⟩ = some (.int .i64 a1_4) ∧ w'.cell? ⟨gb219, 5, none⟩ = some (.int .i64 a1_5) ∧ w'.cell? ⟨gb219, 6, none⟩ = some (.int .i64 a1_6) ∧ w'.cell? ⟨gb219, 7, none⟩ = some (.string a1_7) ∧ w'.cell? ⟨gb219, 8, none⟩ = some (.int .i64 a1_8) ∧ w'.cell? ⟨gb220, 0, none⟩ = some (.int .i64 a2_0) ∧ w'.cell? ⟨gb220, 1, none⟩ = some (.int .i64 a2_1) ∧ w'.cell? ⟨gb220, 2, none⟩ = some (.int .i64 a2_2) ∧ w'.cell? ⟨gb220, 3, none⟩ = some (.int .i64 a2_3) ∧ w'.cell? ⟨gb220, 4, none⟩ = some (.int .i64 a2_4) ∧ w'.cell? ⟨gb220, 5, none⟩ = some (.string a2_5) ∧ w'.cell? ⟨gb221, 0, none⟩ = some (.int .i64 a3_0) ∧ w'.cell? ⟨gb221, 1, none⟩ = some (.int .i64 a3_1)) ∧ (Kd.R (Kd.int .i64) 3 w' w.heap.size (fun _ => True) (.slice Ao77 t225.length co77) t225) ∧ (Kd.R k29 29 w' w.heap.size (fun k_ => k_ ≠ gb219) s_ y232) ∧ (w'.heap[gb219]? = some (.cells #[.int .i64 a1_0, .int .i64 a1_1, .int .i64 a1_2, .int .i64 a1_3, .int .i64 a1_4, .int .i64 a1_5, .int .i64 a1_6, .string a1_7, .int .i64 a1_8] 29 (0, 0))) ∧ (w'.heap[gb220]? = some (.cells #[.int .i64 a2_0, .int .i64 a2_1, .int .i64 a2_2, .int .i64 a2_3, .int .i64 a2_4, .string a2_5] 24 (0, 0))) ∧ (w'.heap[gb221]? = some (.cells #[.int .i64 a3_0, .int .i64 a3_1] 26 (0, 0))) ∧ (w'.heap[gb228]? = some (.cells #[.int .i64 t224, .slice Ao77 t225.length co77] 32 (0, 0))) ∧ (Below w.heap.size w w')) ?_ ?_
                    rotate_left
                    ·
                     intro hJ3
                     refine join_ (σ := Nat) 5 q8_6 (fun s_ => [(14, .pointer (some ⟨s_, 0, none⟩))]) (fun s_ w' => (w'.cell? ⟨gb219, 0, none⟩ = some (.int .i64 a1_0) ∧ w'.cell? ⟨gb219, 1, none⟩ = some (.int .i64 a1_1) ∧ w'.cell? ⟨gb219, 2, none⟩ = some (.int .i64 a1_2) ∧ w'.cell? ⟨gb219, 3, none⟩ = some (.int .i64 a1_3) ∧ w'.cell? ⟨gb219, 4, none⟩ = some (.int .i64 a1_4) ∧ w'.cell? ⟨gb219, 5, none⟩ = some (.int .i64 a1_5) ∧ w'.cell? ⟨gb219, 6, none⟩ = some (.int .i64 a1_6) ∧ w'.cell? ⟨gb219, 7, none⟩ = some (.string a1_7) ∧ w'.cell? ⟨gb219, 8, none⟩ = some (.int .i64 a1_8) ∧ w'.cell? ⟨gb220, 0, none⟩ = some (.int .i64 a2_0) ∧ w'.cell? ⟨gb220, 1, none⟩ = some (.int .i64 a2_1) ∧ w'.cell? ⟨gb220, 2, none⟩ = some (.int .i64 a2_2) ∧ w'.cell? ⟨gb220, 3, none⟩ = some (.int .i64 a2_3) ∧ w'.cell? ⟨gb220, 4, none⟩ = some (.int .i64 a2_4) ∧ w'.cell? ⟨gb220, 5, none⟩ = some (.string a2_5) ∧ w'.cell? ⟨gb221, 0, none⟩ = some (.int .i64 a3_0) ∧ w'.cell? ⟨gb221, 1, none⟩ = some (.int .i64 a3_1)) ∧ (Kd.R (Kd.int .i64) 3 w' w.heap.size (fun _ => True) (.slice Ao77 t225.length co77) t225) ∧ (w'.heap[gb219]? = some (.cells #[.int .i64 a1_0, .int .i64 a1_1, .int .i64 a1_2, .int .i64 a1_3, .int .i64 a1_4, .int .i64 a1_5, .int .i64 a1_6, .string a1_7, .int .i64 a1_8] 29 (0, 0))) ∧ (w'.heap[gb220]? = some (.cells #[.int .i64 a2_0, .int .i64 a2_1, .int .i64 a2_2, .int .i64 a2_3, .int .i64 a2_4, .string a2_5] 24 (0, 0))) ∧ (w'.heap[gb221]? = some (.cells #[.int .i64 a3_0, .int .i64 a3_1] 26 (0, 0))) ∧ (w'.heap[gb228]? = some (.cells #[.int .i64 t224, .slice Ao77 t225.length co77] 32 (0, 0))) ∧ (w'.heap[s_]? = some (.cells #[.int .i64 0, .slice none 0 0] 32 (0, 0))) ∧ (w.heap.size ≤ s_) ∧ (w.heap.size ≤ s_) ∧ (gb219 ≠ s_) ∧ (s_ ≠ gb219) ∧ (gb220 ≠ s_) ∧ (s_ ≠ gb220) ∧ (gb221 ≠ s_) ∧ (s_ ≠ gb221) ∧ (gb228 ≠ s_) ∧ (s_ ≠ gb228) ∧ (Below w.heap.size w w')) ?_ ?_
                     rotate_left
                     ·
                      intro hJ9
                      refine three_ (i := 1) (j := 3) (k := 9) (Ni := some 47) (Nj := some 49) (Nk := some 14) q8_8 q8_7 q8_6 rfl rfl rfl rfl rfl rfl (three_of HT_.out (by kernel_rfl)) (by decide) (by decide) (by decide) (fun K hK => ?_) (fun K hK => ?_) (fun K hK => ?_)
                      ·
                       skip
                       refine Kd.R_append_rows_step k29 (w0 := w) w.heap.size (by rfl) (.const (.slice none 0 0)) (.tmp 46) 22 29 (.agg #[(.int .i64 0), (.int .i64 0), (.int .i64 0), (.int .i64 0), (.int .i64 0), (.int .i64 0), (.int .i64 0), (.string ⟨#[]⟩), (.int .i64 0)]) 80 rfl Try.underlying22 info29 rfl (by decide) (by omega) (.slice none 0 0) ([] : List (S29)) l0 _ _ _ (fun k_ => k_ ≠ gb219) (fun _ => False) rfl rfl ?aO ?aR (fun _ _ h => h) (fun _ h => h.elim) ?aF ?aB ?aS ?aL ?_
                       (case aR => repeat (first | exact (Kd.C_below HR0.out HB.out) | (with_reducible refine Kd.C_alloc ?_ _) | (with_reducible refine Kd.C_drewN ?_ _) | (with_reducible refine Kd.C_drew ?_)))
                       (case aB => exact (gw_ HB))
                       (case aF => exact (fun k_ hk => Kd.freshB (g := gb219) (bk BK219) k_ hk))
                       (case aO => exact ((Kd.R_nil _ _ _ _ (fun k_ => k_ ≠ gb219))))
                       (case aS => exact (below_size (gw_ HB)))
                       (case aL => have := LMc22.out; omega)
                       intro v230 w80 ho hb hg hat
                       rw [← Ny229.out] at ho
                       have n0_ := Aside0.mk (blk_grown (g := gb219) (bk BK219) hg (by simp [Value.ownBlock]))
                       have n1_ := Aside0.mk (blk_grown (g := gb220) (bk BK220) hg (by simp [Value.ownBlock]))
                       have n2_ := Aside0.mk (blk_grown (g := gb221) (bk BK221) hg (by simp [Value.ownBlock]))
                       have n3_ := Aside0.mk (Kd.R_grown (Kd.rk HO227) hg (fun _ _ => by simp [Value.ownBlock]))
                       have n4_ := Aside0.mk (blk_grown (g := gb228) (bk BK228) hg (by simp [Value.ownBlock]))
                       have n5_ := Aside0.mk (hb)
                       have n6_ := Aside0.mk (ho)
                       clear BK219
                       clear BK220
                       clear BK221
                       clear HO227
                       clear BK228
                       clear HB
                       have BK219 := n0_
                       have BK220 := n1_
                       have BK221 := n2_
                       have HO227 := n3_
                       have BK228 := n4_
                       have HB := n5_
                       have HO231 := n6_
                       clear n0_ n1_ n2_ n3_ n4_ n5_ n6_
                       clear ho hb hg hat
                       refine hK.out _ _ ⟨(blk_cell BK219.out 0).trans rfl, (blk_cell BK219.out 1).trans rfl, (blk_cell BK219.out 2).trans rfl, (blk_cell BK219.out 3).trans rfl, (blk_cell BK219.out 4).trans rfl, (blk_cell BK219.out 5).trans rfl, (blk_cell BK219.out 6).trans rfl, (blk_cell BK219.out 7).trans rfl, (blk_cell BK219.out 8).trans rfl, (blk_cell BK220.out 0).trans rfl, (blk_cell BK220.out 1).trans rfl, (blk_cell BK220.out 2).trans rfl, (blk_cell BK220.out 3).trans rfl, (blk_cell BK220.out 4).trans rfl, (blk_cell BK220.out 5).trans rfl, (blk_cell BK221.out 0).trans rfl, (blk_cell BK221.out 1).trans rfl⟩ (fun hHeld => ?_)
                       clear hK K
                       refine norm_ (a' := ?_) ?_ ?_
                       rotate_left
                       ·
                        show Act.put _ (some 47) _ = _
                        simp only [Act.put, List.setIfInBounds_toArray, List.set_cons_zero, List.set_cons_succ, i64_w, i32_w]
                        rfl
                       exact norm_ (by first | (simp only [putAll, Act.put, List.setIfInBounds_toArray, List.set_cons_zero, List.set_cons_succ]; done) | (simp only [putAll, Act.put, List.setIfInBounds_toArray, List.set_cons_zero, List.set_cons_succ]; rfl)) (hJ1 (v230) _ ⟨hHeld, (Kd.rk HO227), (Kd.rk HO231), (bk BK219), (bk BK220), (bk BK221), (bk BK228), (gw_ HB)⟩)
                      ·
                       skip
                       refine Kd.R_lit_step k29 _ 29 ?hg (N := 49) ?hd (xs := ([(⟨(⟨a1_0, a1_1⟩ : S26), (⟨a1_2, a1_3, a1_4, a1_5, a1_6, a1_7⟩ : S24), a1_8⟩ : S29)] : List (S29))) (inner := [.int .i64 a1_0, .int .i64 a1_1, .int .i64 a1_2, .int .i64 a1_3, .int .i64 a1_4, .int .i64 a1_5, .int .i64 a1_6, .string a1_7, .int .i64 a1_8]) (ok := fun _ => True) (okp := fun _ => True) ?hr ?hp (fun _ hk => hk) trivial (Below.refl _ _) (Nat.le_refl _) (by simp) ?_; (case hd => rfl); (case hg => rfl); (case hr => first | (go_simp; done) | (go_simp; rfl)); (case hp => exact (Reps.c9 (show Kd.M k29 _ _ _ (⟨(⟨a1_0, a1_1⟩ : S26), (⟨a1_2, a1_3, a1_4, a1_5, a1_6, a1_7⟩ : S24), a1_8⟩ : S29) [.int .i64 a1_0, .int .i64 a1_1, .int .i64 a1_2, .int .i64 a1_3, .int .i64 a1_4, .int .i64 a1_5, .int .i64 a1_6, .string a1_7, .int .i64 a1_8] from (k29_mkM _ _ _ (⟨(⟨a1_0, a1_1⟩ : S26), (⟨a1_2, a1_3, a1_4, a1_5, a1_6, a1_7⟩ : S24), a1_8⟩ : S29) )) (Reps.none _ _)))
                       intro v233 w80 ho81 hb hg_ hnew_
                       clear hg_ hnew_
                       (first | rw [← Ny232.out] at ho81 | (simp only [Int.reduceToNat] at ho81; rw [← Ny232.out] at ho81))
                       have n0_ := Aside0.mk (Kd.R_below (Kd.rk HO227) hb)
                       have n1_ := Aside0.mk (Kd.R_lower (Kd.R_newB ho81 (g := gb219) (bk BK219)) (below_size (gw_ HB)))
                       have n2_ := Aside0.mk (blk_below (g := gb219) (bk BK219) hb)
                       have n3_ := Aside0.mk (blk_below (g := gb220) (bk BK220) hb)
                       have n4_ := Aside0.mk (blk_below (g := gb221) (bk BK221) hb)
                       have n5_ := Aside0.mk (blk_below (g := gb228) (bk BK228) hb)
                       have n6_ := Aside0.mk (below_step (gw_ HB) hb)
                       clear HO227
                       clear BK219
                       clear BK220
                       clear BK221
                       clear BK228
                       clear HB
                       have HO227 := n0_
                       have HO234 := n1_
                       have BK219 := n2_
                       have BK220 := n3_
                       have BK221 := n4_
                       have BK228 := n5_
                       have HB := n6_
                       clear n0_ n1_ n2_ n3_ n4_ n5_ n6_
                       clear hb ho81
                       refine hK.out _ _ ⟨(blk_cell BK219.out 0).trans rfl, (blk_cell BK219.out 1).trans rfl, (blk_cell BK219.out 2).trans rfl, (blk_cell BK219.out 3).trans rfl, (blk_cell BK219.out 4).trans rfl, (blk_cell BK219.out 5).trans rfl, (blk_cell BK219.out 6).trans rfl, (blk_cell BK219.out 7).trans rfl, (blk_cell BK219.out 8).trans rfl, (blk_cell BK220.out 0).trans rfl, (blk_cell BK220.out 1).trans rfl, (blk_cell BK220.out 2).trans rfl, (blk_cell BK220.out 3).trans rfl, (blk_cell BK220.out 4).trans rfl, (blk_cell BK220.out 5).trans rfl, (blk_cell BK221.out 0).trans rfl, (blk_cell BK221.out 1).trans rfl⟩ (fun hHeld => ?_)
                       clear hK K
                       refine norm_ (a' := ?_) ?_ ?_
                       rotate_left
                       ·
                        show Act.put _ (some 49) _ = _
                        simp only [Act.put, List.setIfInBounds_toArray, List.set_cons_zero, List.set_cons_succ, i64_w, i32_w]
                        rfl
                       exact norm_ (by first | (simp only [putAll, Act.put, List.setIfInBounds_toArray, List.set_cons_zero, List.set_cons_succ]; done) | (simp only [putAll, Act.put, List.setIfInBounds_toArray, List.set_cons_zero, List.set_cons_succ]; rfl)) (hJ3 (v233) _ ⟨hHeld, (Kd.rk HO227), (by (with_reducible repeat (first | apply Kd.R_alloc | apply Kd.R_drewN | apply Kd.R_drew)); exact Kd.R_mono HO234.out (fun _ hk => hk.2)), (bk BK219), (bk BK220), (bk BK221), (bk BK228), (gw_ HB)⟩)
                      ·
                       skip
                       refine box_step ?hg (N := 14) ?hd (cs := #[.int .i64 0, .slice none 0 0]) (t := 32) ?hr ?_; (case hd => rfl); (case hg => rfl); (case hr => first | (go_simp; done) | (go_simp; rfl))
                       intro gb242 hg w80 hbox hb
                       have n0_ := Aside0.mk (Kd.R_below (Kd.rk HO227) hb)
                       have n1_ := Aside0.mk (blk_below (g := gb219) (bk BK219) hb)
                       have n2_ := Aside0.mk (blk_below (g := gb220) (bk BK220) hb)
                       have n3_ := Aside0.mk (blk_below (g := gb221) (bk BK221) hb)
                       have n4_ := Aside0.mk (blk_below (g := gb228) (bk BK228) hb)
                       have n5_ := Aside0.mk (below_step (gw_ HB) hb)
                       have n6_ := Aside0.mk (hbox)
                       have n7_ := Aside0.mk ((by rw [hg]; exact (below_size (gw_ HB)) : w.heap.size ≤ gb242))
                       have n8_ := Aside0.mk ((by rw [hg]; exact (below_size (gw_ HB)) : w.heap.size ≤ gb242))
                       have n9_ := Aside0.mk ((by rw [hg]; exact Nat.ne_of_lt (blk_lt (g := gb219) (bk BK219)) : gb219 ≠ gb242))
                       have n10_ := Aside0.mk ((by rw [hg]; exact Nat.ne_of_gt (blk_lt (g := gb219) (bk BK219)) : gb242 ≠ gb219))
                       have n11_ := Aside0.mk ((by rw [hg]; exact Nat.ne_of_lt (blk_lt (g := gb220) (bk BK220)) : gb220 ≠ gb242))
                       have n12_ := Aside0.mk ((by rw [hg]; exact Nat.ne_of_gt (blk_lt (g := gb220) (bk BK220)) : gb242 ≠ gb220))
                       have n13_ := Aside0.mk ((by rw [hg]; exact Nat.ne_of_lt (blk_lt (g := gb221) (bk BK221)) : gb221 ≠ gb242))
                       have n14_ := Aside0.mk ((by rw [hg]; exact Nat.ne_of_gt (blk_lt (g := gb221) (bk BK221)) : gb242 ≠ gb221))
                       have n15_ := Aside0.mk ((by rw [hg]; exact Nat.ne_of_lt (blk_lt (g := gb228) (bk BK228)) : gb228 ≠ gb242))
                       have n16_ := Aside0.mk ((by rw [hg]; exact Nat.ne_of_gt (blk_lt (g := gb228) (bk BK228)) : gb242 ≠ gb228))
                       clear HO227
                       clear BK219
                       clear BK220
                       clear BK221
                       clear BK228
                       clear HB
                       have HO227 := n0_
                       have BK219 := n1_
                       have BK220 := n2_
                       have BK221 := n3_
                       have BK228 := n4_
                       have HB := n5_
                       have BK242 := n6_
                       have GW242 := n7_
                       have GE242 := n8_
                       have NB219_242 := n9_
                       have NB242_219 := n10_
                       have NB220_242 := n11_
                       have NB242_220 := n12_
                       have NB221_242 := n13_
                       have NB242_221 := n14_
                       have NB228_242 := n15_
                       have NB242_228 := n16_
                       clear n0_ n1_ n2_ n3_ n4_ n5_ n6_ n7_ n8_ n9_ n10_ n11_ n12_ n13_ n14_ n15_ n16_
                       clear hb hbox hg
                       refine hK.out _ _ ⟨(blk_cell BK219.out 0).trans rfl, (blk_cell BK219.out 1).trans rfl, (blk_cell BK219.out 2).trans rfl, (blk_cell BK219.out 3).trans rfl, (blk_cell BK219.out 4).trans rfl, (blk_cell BK219.out 5).trans rfl, (blk_cell BK219.out 6).trans rfl, (blk_cell BK219.out 7).trans rfl, (blk_cell BK219.out 8).trans rfl, (blk_cell BK220.out 0).trans rfl, (blk_cell BK220.out 1).trans rfl, (blk_cell BK220.out 2).trans rfl, (blk_cell BK220.out 3).trans rfl, (blk_cell BK220.out 4).trans rfl, (blk_cell BK220.out 5).trans rfl, (blk_cell BK221.out 0).trans rfl, (blk_cell BK221.out 1).trans rfl⟩ (fun hHeld => ?_)
                       clear hK K
                       refine norm_ (a' := ?_) ?_ ?_
                       rotate_left
                       ·
                        show Act.put _ (some 14) _ = _
                        simp only [Act.put, List.setIfInBounds_toArray, List.set_cons_zero, List.set_cons_succ, i64_w, i32_w]
                        rfl
                       exact norm_ (by first | (simp only [putAll, Act.put, List.setIfInBounds_toArray, List.set_cons_zero, List.set_cons_succ]; done) | (simp only [putAll, Act.put, List.setIfInBounds_toArray, List.set_cons_zero, List.set_cons_succ]; rfl)) (hJ9 (gb242) _ ⟨hHeld, (Kd.rk HO227), (bk BK219), (bk BK220), (bk BK221), (bk BK228), (bk BK242), GW242.out, GE242.out, NB219_242.out, NB242_219.out, NB220_242.out, NB242_220.out, NB221_242.out, NB242_221.out, NB228_242.out, NB242_228.out, (gw_ HB)⟩)
                     ·
                      skip
                      rintro gb242 w81 ⟨hS_, h0_, h1_, h2_, h3_, h4_, h5_, h6_, h7_, h8_, h9_, h10_, h11_, h12_, h13_, h14_, h15_, h16_⟩
                      have n0_ : Aside0 (Kd.R (Kd.int .i64) 3 w81 w.heap.size (fun _ => True) (.slice Ao77 t225.length co77) t225) := ⟨h0_⟩
                      have n1_ : Aside0 (w81.heap[gb219]? = some (.cells #[.int .i64 a1_0, .int .i64 a1_1, .int .i64 a1_2, .int .i64 a1_3, .int .i64 a1_4, .int .i64 a1_5, .int .i64 a1_6, .string a1_7, .int .i64 a1_8] 29 (0, 0))) := ⟨h1_⟩
                      have n2_ : Aside0 (w81.heap[gb220]? = some (.cells #[.int .i64 a2_0, .int .i64 a2_1, .int .i64 a2_2, .int .i64 a2_3, .int .i64 a2_4, .string a2_5] 24 (0, 0))) := ⟨h2_⟩
                      have n3_ : Aside0 (w81.heap[gb221]? = some (.cells #[.int .i64 a3_0, .int .i64 a3_1] 26 (0, 0))) := ⟨h3_⟩
                      have n4_ : Aside0 (w81.heap[gb228]? = some (.cells #[.int .i64 t224, .slice Ao77 t225.length co77] 32 (0, 0))) := ⟨h4_⟩
                      have n5_ : Aside0 (w81.heap[gb242]? = some (.cells #[.int .i64 0, .slice none 0 0] 32 (0, 0))) := ⟨h5_⟩
                      have n6_ : Aside0 (w.heap.size ≤ gb242) := ⟨h6_⟩
                      have n7_ : Aside0 (w.heap.size ≤ gb242) := ⟨h7_⟩
                      have n8_ : Aside0 (gb219 ≠ gb242) := ⟨h8_⟩
                      have n9_ : Aside0 (gb242 ≠ gb219) := ⟨h9_⟩
                      have n10_ : Aside0 (gb220 ≠ gb242) := ⟨h10_⟩
                      have n11_ : Aside0 (gb242 ≠ gb220) := ⟨h11_⟩
                      have n12_ : Aside0 (gb221 ≠ gb242) := ⟨h12_⟩
                      have n13_ : Aside0 (gb242 ≠ gb221) := ⟨h13_⟩
                      have n14_ : Aside0 (gb228 ≠ gb242) := ⟨h14_⟩
                      have n15_ : Aside0 (gb242 ≠ gb228) := ⟨h15_⟩
                      have n16_ : Aside0 (Below w.heap.size w w81) := ⟨h16_⟩
                      clear HO227
                      clear BK219
                      clear BK220
                      clear BK221
                      clear BK228
                      clear HB
                      clear h0_ h1_ h2_ h3_ h4_ h5_ h6_ h7_ h8_ h9_ h10_ h11_ h12_ h13_ h14_ h15_ h16_
                      have HO227 := n0_
                      have BK219 := n1_
                      have BK220 := n2_
                      have BK221 := n3_
                      have BK228 := n4_
                      have BK242 := n5_
                      have GW242 := n6_
                      have GE242 := n7_
                      have NB219_242 := n8_
                      have NB242_219 := n9_
                      have NB220_242 := n10_
                      have NB242_220 := n11_
                      have NB221_242 := n12_
                      have NB242_221 := n13_
                      have NB228_242 := n14_
                      have NB242_228 := n15_
                      have HB := n16_
                      clear n0_ n1_ n2_ n3_ n4_ n5_ n6_ n7_ n8_ n9_ n10_ n11_ n12_ n13_ n14_ n15_ n16_
                      have hHeld : w81.cell? ⟨gb219, 0, none⟩ = some (.int .i64 a1_0) ∧ w81.cell? ⟨gb219, 1, none⟩ = some (.int .i64 a1_1) ∧ w81.cell? ⟨gb219, 2, none⟩ = some (.int .i64 a1_2) ∧ w81.cell? ⟨gb219, 3, none⟩ = some (.int .i64 a1_3) ∧ w81.cell? ⟨gb219, 4, none⟩ = some (.int .i64 a1_4) ∧ w81.cell? ⟨gb219, 5, none⟩ = some (.int .i64 a1_5) ∧ w81.cell? ⟨gb219, 6, none⟩ = some (.int .i64 a1_6) ∧ w81.cell? ⟨gb219, 7, none⟩ = some (.string a1_7) ∧ w81.cell? ⟨gb219, 8, none⟩ = some (.int .i64 a1_8) ∧ w81.cell? ⟨gb220, 0, none⟩ = some (.int .i64 a2_0) ∧ w81.cell? ⟨gb220, 1, none⟩ = some (.int .i64 a2_1) ∧ w81.cell? ⟨gb220, 2, none⟩ = some (.int .i64 a2_2) ∧ w81.cell? ⟨gb220, 3, none⟩ = some (.int .i64 a2_3) ∧ w81.cell? ⟨gb220, 4, none⟩ = some (.int .i64 a2_4) ∧ w81.cell? ⟨gb220, 5, none⟩ = some (.string a2_5) ∧ w81.cell? ⟨gb221, 0, none⟩ = some (.int .i64 a3_0) ∧ w81.cell? ⟨gb221, 1, none⟩ = some (.int .i64 a3_1) := hS_
                      refine norm_ (a' := ?_) ?_ ?_
                      rotate_left
                      ·
                       simp only [putAll, Act.put, List.setIfInBounds_toArray, List.set_cons_zero, List.set_cons_succ]
                       rfl
                      refine two_ (i := 1) (j := 3) (Ni := some 47) (Nj := some 49) q8_10 q8_9 rfl rfl rfl rfl (two_of HT_.out (by kernel_rfl)) (by decide) (by decide) (fun K hK => ?_) (fun K hK => ?_)
                      ·
                       skip
                       refine Kd.R_append_rows_step k29 (w0 := w) w.heap.size (by rfl) (.const (.slice none 0 0)) (.tmp 46) 22 29 (.agg #[(.int .i64 0), (.int .i64 0), (.int .i64 0), (.int .i64 0), (.int .i64 0), (.int .i64 0), (.int .i64 0), (.string ⟨#[]⟩), (.int .i64 0)]) 80 rfl Try.underlying22 info29 rfl (by decide) (by omega) (.slice none 0 0) ([] : List (S29)) l0 _ _ _ (fun k_ => k_ ≠ gb219) (fun _ => False) rfl rfl ?aO ?aR (fun _ _ h => h) (fun _ h => h.elim) ?aF ?aB ?aS ?aL ?_
                       (case aR => repeat (first | exact (Kd.C_below HR0.out HB.out) | (with_reducible refine Kd.C_alloc ?_ _) | (with_reducible refine Kd.C_drewN ?_ _) | (with_reducible refine Kd.C_drew ?_)))
                       (case aB => exact (gw_ HB))
                       (case aF => exact (fun k_ hk => Kd.freshB (g := gb219) (bk BK219) k_ hk))
                       (case aO => exact ((Kd.R_nil _ _ _ _ (fun k_ => k_ ≠ gb219))))
                       (case aS => exact (below_size (gw_ HB)))
                       (case aL => have := LMc22.out; omega)
                       intro v230 w82 ho hb hg hat
                       rw [← Ny229.out] at ho
                       have n0_ := Aside0.mk (blk_grown (g := gb219) (bk BK219) hg (by simp [Value.ownBlock]))
                       have n1_ := Aside0.mk (blk_grown (g := gb220) (bk BK220) hg (by simp [Value.ownBlock]))
                       have n2_ := Aside0.mk (blk_grown (g := gb221) (bk BK221) hg (by simp [Value.ownBlock]))
                       have n3_ := Aside0.mk (Kd.R_grown (Kd.rk HO227) hg (fun _ _ => by simp [Value.ownBlock]))
                       have n4_ := Aside0.mk (blk_grown (g := gb228) (bk BK228) hg (by simp [Value.ownBlock]))
                       have n5_ := Aside0.mk (blk_grown (g := gb242) (bk BK242) hg (by simp [Value.ownBlock]))
                       have n6_ := Aside0.mk (hb)
                       have n7_ := Aside0.mk (ho)
                       clear BK219
                       clear BK220
                       clear BK221
                       clear HO227
                       clear BK228
                       clear BK242
                       clear HB
                       have BK219 := n0_
                       have BK220 := n1_
                       have BK221 := n2_
                       have HO227 := n3_
                       have BK228 := n4_
                       have BK242 := n5_
                       have HB := n6_
                       have HO231 := n7_
                       clear n0_ n1_ n2_ n3_ n4_ n5_ n6_ n7_
                       clear ho hb hg hat
                       refine hK.out _ _ ⟨(blk_cell BK219.out 0).trans rfl, (blk_cell BK219.out 1).trans rfl, (blk_cell BK219.out 2).trans rfl, (blk_cell BK219.out 3).trans rfl, (blk_cell BK219.out 4).trans rfl, (blk_cell BK219.out 5).trans rfl, (blk_cell BK219.out 6).trans rfl, (blk_cell BK219.out 7).trans rfl, (blk_cell BK219.out 8).trans rfl, (blk_cell BK220.out 0).trans rfl, (blk_cell BK220.out 1).trans rfl, (blk_cell BK220.out 2).trans rfl, (blk_cell BK220.out 3).trans rfl, (blk_cell BK220.out 4).trans rfl, (blk_cell BK220.out 5).trans rfl, (blk_cell BK221.out 0).trans rfl, (blk_cell BK221.out 1).trans rfl⟩ (fun hHeld => ?_)
                       clear hK K
                       refine norm_ (a' := ?_) ?_ ?_
                       rotate_left
                       ·
                        show Act.put _ (some 47) _ = _
                        simp only [Act.put, List.setIfInBounds_toArray, List.set_cons_zero, List.set_cons_succ, i64_w, i32_w]
                        rfl
                       exact norm_ (by first | (simp only [putAll, Act.put, List.setIfInBounds_toArray, List.set_cons_zero, List.set_cons_succ]; done) | (simp only [putAll, Act.put, List.setIfInBounds_toArray, List.set_cons_zero, List.set_cons_succ]; rfl)) (hJ1_9 (v230, gb242) _ ⟨hHeld, (Kd.rk HO227), (Kd.rk HO231), (bk BK219), (bk BK220), (bk BK221), (bk BK228), (bk BK242), GW242.out, GE242.out, NB219_242.out, NB242_219.out, NB220_242.out, NB242_220.out, NB221_242.out, NB242_221.out, NB228_242.out, NB242_228.out, (gw_ HB)⟩)
                      ·
                       skip
                       refine Kd.R_lit_step k29 _ 29 ?hg (N := 49) ?hd (xs := ([(⟨(⟨a1_0, a1_1⟩ : S26), (⟨a1_2, a1_3, a1_4, a1_5, a1_6, a1_7⟩ : S24), a1_8⟩ : S29)] : List (S29))) (inner := [.int .i64 a1_0, .int .i64 a1_1, .int .i64 a1_2, .int .i64 a1_3, .int .i64 a1_4, .int .i64 a1_5, .int .i64 a1_6, .string a1_7, .int .i64 a1_8]) (ok := fun _ => True) (okp := fun _ => True) ?hr ?hp (fun _ hk => hk) trivial (Below.refl _ _) (Nat.le_refl _) (by simp) ?_; (case hd => rfl); (case hg => rfl); (case hr => first | (go_simp; done) | (go_simp; rfl)); (case hp => exact (Reps.c9 (show Kd.M k29 _ _ _ (⟨(⟨a1_0, a1_1⟩ : S26), (⟨a1_2, a1_3, a1_4, a1_5, a1_6, a1_7⟩ : S24), a1_8⟩ : S29) [.int .i64 a1_0, .int .i64 a1_1, .int .i64 a1_2, .int .i64 a1_3, .int .i64 a1_4, .int .i64 a1_5, .int .i64 a1_6, .string a1_7, .int .i64 a1_8] from (k29_mkM _ _ _ (⟨(⟨a1_0, a1_1⟩ : S26), (⟨a1_2, a1_3, a1_4, a1_5, a1_6, a1_7⟩ : S24), a1_8⟩ : S29) )) (Reps.none _ _)))
                       intro v233 w82 ho83 hb hg_ hnew_
                       clear hg_ hnew_
                       (first | rw [← Ny232.out] at ho83 | (simp only [Int.reduceToNat] at ho83; rw [← Ny232.out] at ho83))
                       have n0_ := Aside0.mk (Kd.R_below (Kd.rk HO227) hb)
                       have n1_ := Aside0.mk (Kd.R_lower (Kd.R_newB ho83 (g := gb219) (bk BK219)) (below_size (gw_ HB)))
                       have n2_ := Aside0.mk (blk_below (g := gb219) (bk BK219) hb)
                       have n3_ := Aside0.mk (blk_below (g := gb220) (bk BK220) hb)
                       have n4_ := Aside0.mk (blk_below (g := gb221) (bk BK221) hb)
                       have n5_ := Aside0.mk (blk_below (g := gb228) (bk BK228) hb)
                       have n6_ := Aside0.mk (blk_below (g := gb242) (bk BK242) hb)
                       have n7_ := Aside0.mk (below_step (gw_ HB) hb)
                       clear HO227
                       clear BK219
                       clear BK220
                       clear BK221
                       clear BK228
                       clear BK242
                       clear HB
                       have HO227 := n0_
                       have HO234 := n1_
                       have BK219 := n2_
                       have BK220 := n3_
                       have BK221 := n4_
                       have BK228 := n5_
                       have BK242 := n6_
                       have HB := n7_
                       clear n0_ n1_ n2_ n3_ n4_ n5_ n6_ n7_
                       clear hb ho83
                       refine hK.out _ _ ⟨(blk_cell BK219.out 0).trans rfl, (blk_cell BK219.out 1).trans rfl, (blk_cell BK219.out 2).trans rfl, (blk_cell BK219.out 3).trans rfl, (blk_cell BK219.out 4).trans rfl, (blk_cell BK219.out 5).trans rfl, (blk_cell BK219.out 6).trans rfl, (blk_cell BK219.out 7).trans rfl, (blk_cell BK219.out 8).trans rfl, (blk_cell BK220.out 0).trans rfl, (blk_cell BK220.out 1).trans rfl, (blk_cell BK220.out 2).trans rfl, (blk_cell BK220.out 3).trans rfl, (blk_cell BK220.out 4).trans rfl, (blk_cell BK220.out 5).trans rfl, (blk_cell BK221.out 0).trans rfl, (blk_cell BK221.out 1).trans rfl⟩ (fun hHeld => ?_)
                       clear hK K
                       refine norm_ (a' := ?_) ?_ ?_
                       rotate_left
                       ·
                        show Act.put _ (some 49) _ = _
                        simp only [Act.put, List.setIfInBounds_toArray, List.set_cons_zero, List.set_cons_succ, i64_w, i32_w]
                        rfl
                       exact norm_ (by first | (simp only [putAll, Act.put, List.setIfInBounds_toArray, List.set_cons_zero, List.set_cons_succ]; done) | (simp only [putAll, Act.put, List.setIfInBounds_toArray, List.set_cons_zero, List.set_cons_succ]; rfl)) (hJ3_9 (v233, gb242) _ ⟨hHeld, (Kd.rk HO227), (by (with_reducible repeat (first | apply Kd.R_alloc | apply Kd.R_drewN | apply Kd.R_drew)); exact Kd.R_mono HO234.out (fun _ hk => hk.2)), (bk BK219), (bk BK220), (bk BK221), (bk BK228), (bk BK242), GW242.out, GE242.out, NB219_242.out, NB242_219.out, NB220_242.out, NB242_220.out, NB221_242.out, NB242_221.out, NB228_242.out, NB242_228.out, (gw_ HB)⟩)
                    ·
                     skip
                     rintro v233 w82 ⟨hS_, h0_, h1_, h2_, h3_, h4_, h5_, h6_⟩
                     have n0_ : Aside0 (Kd.R (Kd.int .i64) 3 w82 w.heap.size (fun _ => True) (.slice Ao77 t225.length co77) t225) := ⟨h0_⟩
                     have n1_ : Aside0 (Kd.R k29 29 w82 w.heap.size (fun k_ => k_ ≠ gb219) v233 y232) := ⟨h1_⟩
                     have n2_ : Aside0 (w82.heap[gb219]? = some (.cells #[.int .i64 a1_0, .int .i64 a1_1, .int .i64 a1_2, .int .i64 a1_3, .int .i64 a1_4, .int .i64 a1_5, .int .i64 a1_6, .string a1_7, .int .i64 a1_8] 29 (0, 0))) := ⟨h2_⟩
                     have n3_ : Aside0 (w82.heap[gb220]? = some (.cells #[.int .i64 a2_0, .int .i64 a2_1, .int .i64 a2_2, .int .i64 a2_3, .int .i64 a2_4, .string a2_5] 24 (0, 0))) := ⟨h3_⟩
                     have n4_ : Aside0 (w82.heap[gb221]? = some (.cells #[.int .i64 a3_0, .int .i64 a3_1] 26 (0, 0))) := ⟨h4_⟩
                     have n5_ : Aside0 (w82.heap[gb228]? = some (.cells #[.int .i64 t224, .slice Ao77 t225.length co77] 32 (0, 0))) := ⟨h5_⟩
                     have n6_ : Aside0 (Below w.heap.size w w82) := ⟨h6_⟩
                     clear HO227
                     clear BK219
                     clear BK220
                     clear BK221
                     clear BK228
                     clear HB
                     clear h0_ h1_ h2_ h3_ h4_ h5_ h6_
                     have HO227 := n0_
                     have HO234 := n1_
                     have BK219 := n2_
                     have BK220 := n3_
                     have BK221 := n4_
                     have BK228 := n5_
                     have HB := n6_
                     clear n0_ n1_ n2_ n3_ n4_ n5_ n6_
                     have hHeld : w82.cell? ⟨gb219, 0, none⟩ = some (.int .i64 a1_0) ∧ w82.cell? ⟨gb219, 1, none⟩ = some (.int .i64 a1_1) ∧ w82.cell? ⟨gb219, 2, none⟩ = some (.int .i64 a1_2) ∧ w82.cell? ⟨gb219, 3, none⟩ = some (.int .i64 a1_3) ∧ w82.cell? ⟨gb219, 4, none⟩ = some (.int .i64 a1_4) ∧ w82.cell? ⟨gb219, 5, none⟩ = some (.int .i64 a1_5) ∧ w82.cell? ⟨gb219, 6, none⟩ = some (.int .i64 a1_6) ∧ w82.cell? ⟨gb219, 7, none⟩ = some (.string a1_7) ∧ w82.cell? ⟨gb219, 8, none⟩ = some (.int .i64 a1_8) ∧ w82.cell? ⟨gb220, 0, none⟩ = some (.int .i64 a2_0) ∧ w82.cell? ⟨gb220, 1, none⟩ = some (.int .i64 a2_1) ∧ w82.cell? ⟨gb220, 2, none⟩ = some (.int .i64 a2_2) ∧ w82.cell? ⟨gb220, 3, none⟩ = some (.int .i64 a2_3) ∧ w82.cell? ⟨gb220, 4, none⟩ = some (.int .i64 a2_4) ∧ w82.cell? ⟨gb220, 5, none⟩ = some (.string a2_5) ∧ w82.cell? ⟨gb221, 0, none⟩ = some (.int .i64 a3_0) ∧ w82.cell? ⟨gb221, 1, none⟩ = some (.int .i64 a3_1) := hS_
                     refine norm_ (a' := ?_) ?_ ?_
                     rotate_left
                     ·
                      simp only [putAll, Act.put, List.setIfInBounds_toArray, List.set_cons_zero, List.set_cons_succ]
                      rfl
                     refine two_ (i := 1) (j := 9) (Ni := some 47) (Nj := some 14) q8_11 q8_9 rfl rfl rfl rfl (two_of HT_.out (by kernel_rfl)) (by decide) (by decide) (fun K hK => ?_) (fun K hK => ?_)
                     ·
                      skip
                      refine Kd.R_append_rows_step k29 (w0 := w) w.heap.size (by rfl) (.const (.slice none 0 0)) (.tmp 46) 22 29 (.agg #[(.int .i64 0), (.int .i64 0), (.int .i64 0), (.int .i64 0), (.int .i64 0), (.int .i64 0), (.int .i64 0), (.string ⟨#[]⟩), (.int .i64 0)]) 80 rfl Try.underlying22 info29 rfl (by decide) (by omega) (.slice none 0 0) ([] : List (S29)) l0 _ _ _ (fun k_ => some k_ ≠ (v233 : Value).ownBlock ∧ k_ ≠ gb219) (fun _ => False) rfl rfl ?aO ?aR (fun _ _ h => h) (fun _ h => h.elim) ?aF ?aB ?aS ?aL ?_
                      (case aR => repeat (first | exact (Kd.C_below HR0.out HB.out) | (with_reducible refine Kd.C_alloc ?_ _) | (with_reducible refine Kd.C_drewN ?_ _) | (with_reducible refine Kd.C_drew ?_)))
                      (case aB => exact (gw_ HB))
                      (case aF => exact (fun k_ hk => ⟨Kd.fresh' (Kd.R_lt (Kd.rk HO234)) k_ hk, Kd.freshB (g := gb219) (bk BK219) k_ hk⟩))
                      (case aO => exact ((Kd.R_nil _ _ _ _ (fun k_ => some k_ ≠ (v233 : Value).ownBlock ∧ k_ ≠ gb219))))
                      (case aS => exact (below_size (gw_ HB)))
                      (case aL => have := LMc22.out; omega)
                      intro v230 w83 ho hb hg hat
                      rw [← Ny229.out] at ho
                      have n0_ := Aside0.mk (blk_grown (g := gb219) (bk BK219) hg (by simp [Value.ownBlock]))
                      have n1_ := Aside0.mk (blk_grown (g := gb220) (bk BK220) hg (by simp [Value.ownBlock]))
                      have n2_ := Aside0.mk (blk_grown (g := gb221) (bk BK221) hg (by simp [Value.ownBlock]))
                      have n3_ := Aside0.mk (Kd.R_grown (Kd.rk HO227) hg (fun _ _ => by simp [Value.ownBlock]))
                      have n4_ := Aside0.mk (blk_grown (g := gb228) (bk BK228) hg (by simp [Value.ownBlock]))
                      have n5_ := Aside0.mk (Kd.R_after (Kd.R_apart_nil (Kd.rk HO234)) hg hat)
                      have n6_ := Aside0.mk (hb)
                      have n7_ := Aside0.mk (ho)
                      clear BK219
                      clear BK220
                      clear BK221
                      clear HO227
                      clear BK228
                      clear HO234
                      clear HB
                      have BK219 := n0_
                      have BK220 := n1_
                      have BK221 := n2_
                      have HO227 := n3_
                      have BK228 := n4_
                      have HO234 := n5_
                      have HB := n6_
                      have HO231 := n7_
                      clear n0_ n1_ n2_ n3_ n4_ n5_ n6_ n7_
                      clear ho hb hg hat
                      refine hK.out _ _ ⟨(blk_cell BK219.out 0).trans rfl, (blk_cell BK219.out 1).trans rfl, (blk_cell BK219.out 2).trans rfl, (blk_cell BK219.out 3).trans rfl, (blk_cell BK219.out 4).trans rfl, (blk_cell BK219.out 5).trans rfl, (blk_cell BK219.out 6).trans rfl, (blk_cell BK219.out 7).trans rfl, (blk_cell BK219.out 8).trans rfl, (blk_cell BK220.out 0).trans rfl, (blk_cell BK220.out 1).trans rfl, (blk_cell BK220.out 2).trans rfl, (blk_cell BK220.out 3).trans rfl, (blk_cell BK220.out 4).trans rfl, (blk_cell BK220.out 5).trans rfl, (blk_cell BK221.out 0).trans rfl, (blk_cell BK221.out 1).trans rfl⟩ (fun hHeld => ?_)
                      clear hK K
                      refine norm_ (a' := ?_) ?_ ?_
                      rotate_left
                      ·
                       show Act.put _ (some 47) _ = _
                       simp only [Act.put, List.setIfInBounds_toArray, List.set_cons_zero, List.set_cons_succ, i64_w, i32_w]
                       rfl
                      exact norm_ (by first | (simp only [putAll, Act.put, List.setIfInBounds_toArray, List.set_cons_zero, List.set_cons_succ]; done) | (simp only [putAll, Act.put, List.setIfInBounds_toArray, List.set_cons_zero, List.set_cons_succ]; rfl)) (hJ1_3 (v230, v233) _ ⟨hHeld, (Kd.rk HO227), (Kd.rk HO231), (by (with_reducible repeat (first | apply Kd.R_alloc | apply Kd.R_drewN | apply Kd.R_drew)); exact Kd.R_mono HO234.out (fun _ hk => ⟨hk.2, hk.1⟩)), (bk BK219), (bk BK220), (bk BK221), (bk BK228), (gw_ HB)⟩)
                     ·
                      skip
                      refine box_step ?hg (N := 14) ?hd (cs := #[.int .i64 0, .slice none 0 0]) (t := 32) ?hr ?_; (case hd => rfl); (case hg => rfl); (case hr => first | (go_simp; done) | (go_simp; rfl))
                      intro gb242 hg w83 hbox hb
                      have n0_ := Aside0.mk (Kd.R_below (Kd.rk HO227) hb)
                      have n1_ := Aside0.mk (Kd.R_below (Kd.rk HO234) hb)
                      have n2_ := Aside0.mk (blk_below (g := gb219) (bk BK219) hb)
                      have n3_ := Aside0.mk (blk_below (g := gb220) (bk BK220) hb)
                      have n4_ := Aside0.mk (blk_below (g := gb221) (bk BK221) hb)
                      have n5_ := Aside0.mk (blk_below (g := gb228) (bk BK228) hb)
                      have n6_ := Aside0.mk (below_step (gw_ HB) hb)
                      have n7_ := Aside0.mk (hbox)
                      have n8_ := Aside0.mk ((by rw [hg]; exact (below_size (gw_ HB)) : w.heap.size ≤ gb242))
                      have n9_ := Aside0.mk ((by rw [hg]; exact (below_size (gw_ HB)) : w.heap.size ≤ gb242))
                      have n10_ := Aside0.mk ((by rw [hg]; exact Nat.ne_of_lt (blk_lt (g := gb219) (bk BK219)) : gb219 ≠ gb242))
                      have n11_ := Aside0.mk ((by rw [hg]; exact Nat.ne_of_gt (blk_lt (g := gb219) (bk BK219)) : gb242 ≠ gb219))
                      have n12_ := Aside0.mk ((by rw [hg]; exact Nat.ne_of_lt (blk_lt (g := gb220) (bk BK220)) : gb220 ≠ gb242))
                      have n13_ := Aside0.mk ((by rw [hg]; exact Nat.ne_of_gt (blk_lt (g := gb220) (bk BK220)) : gb242 ≠ gb220))
                      have n14_ := Aside0.mk ((by rw [hg]; exact Nat.ne_of_lt (blk_lt (g := gb221) (bk BK221)) : gb221 ≠ gb242))
                      have n15_ := Aside0.mk ((by rw [hg]; exact Nat.ne_of_gt (blk_lt (g := gb221) (bk BK221)) : gb242 ≠ gb221))
                      have n16_ := Aside0.mk ((by rw [hg]; exact Nat.ne_of_lt (blk_lt (g := gb228) (bk BK228)) : gb228 ≠ gb242))
                      have n17_ := Aside0.mk ((by rw [hg]; exact Nat.ne_of_gt (blk_lt (g := gb228) (bk BK228)) : gb242 ≠ gb228))
                      clear HO227
                      clear HO234
                      clear BK219
                      clear BK220
                      clear BK221
                      clear BK228
                      clear HB
                      have HO227 := n0_
                      have HO234 := n1_
                      have BK219 := n2_
                      have BK220 := n3_
                      have BK221 := n4_
                      have BK228 := n5_
                      have HB := n6_
                      have BK242 := n7_
                      have GW242 := n8_
                      have GE242 := n9_
                      have NB219_242 := n10_
                      have NB242_219 := n11_
                      have NB220_242 := n12_
                      have NB242_220 := n13_
                      have NB221_242 := n14_
                      have NB242_221 := n15_
                      have NB228_242 := n16_
                      have NB242_228 := n17_
                      clear n0_ n1_ n2_ n3_ n4_ n5_ n6_ n7_ n8_ n9_ n10_ n11_ n12_ n13_ n14_ n15_ n16_ n17_
                      clear hb hbox hg
                      refine hK.out _ _ ⟨(blk_cell BK219.out 0).trans rfl, (blk_cell BK219.out 1).trans rfl, (blk_cell BK219.out 2).trans rfl, (blk_cell BK219.out 3).trans rfl, (blk_cell BK219.out 4).trans rfl, (blk_cell BK219.out 5).trans rfl, (blk_cell BK219.out 6).trans rfl, (blk_cell BK219.out 7).trans rfl, (blk_cell BK219.out 8).trans rfl, (blk_cell BK220.out 0).trans rfl, (blk_cell BK220.out 1).trans rfl, (blk_cell BK220.out 2).trans rfl, (blk_cell BK220.out 3).trans rfl, (blk_cell BK220.out 4).trans rfl, (blk_cell BK220.out 5).trans rfl, (blk_cell BK221.out 0).trans rfl, (blk_cell BK221.out 1).trans rfl⟩ (fun hHeld => ?_)
                      clear hK K
                      refine norm_ (a' := ?_) ?_ ?_
                      rotate_left
                      ·
                       show Act.put _ (some 14) _ = _
                       simp only [Act.put, List.setIfInBounds_toArray, List.set_cons_zero, List.set_cons_succ, i64_w, i32_w]
                       rfl
                      exact norm_ (by first | (simp only [putAll, Act.put, List.setIfInBounds_toArray, List.set_cons_zero, List.set_cons_succ]; done) | (simp only [putAll, Act.put, List.setIfInBounds_toArray, List.set_cons_zero, List.set_cons_succ]; rfl)) (hJ3_9 (v233, gb242) _ ⟨hHeld, (Kd.rk HO227), (Kd.rk HO234), (bk BK219), (bk BK220), (bk BK221), (bk BK228), (bk BK242), GW242.out, GE242.out, NB219_242.out, NB242_219.out, NB220_242.out, NB242_220.out, NB221_242.out, NB242_221.out, NB228_242.out, NB242_228.out, (gw_ HB)⟩)
                   ·
                    skip
                    rintro v230 w81 ⟨hS_, h0_, h1_, h2_, h3_, h4_, h5_, h6_⟩
                    have n0_ : Aside0 (Kd.R (Kd.int .i64) 3 w81 w.heap.size (fun _ => True) (.slice Ao77 t225.length co77) t225) := ⟨h0_⟩
                    have n1_ : Aside0 (Kd.R k29 29 w81 w.heap.size (fun k_ => k_ ≠ gb219) v230 y229) := ⟨h1_⟩
                    have n2_ : Aside0 (w81.heap[gb219]? = some (.cells #[.int .i64 a1_0, .int .i64 a1_1, .int .i64 a1_2, .int .i64 a1_3, .int .i64 a1_4, .int .i64 a1_5, .int .i64 a1_6, .string a1_7, .int .i64 a1_8] 29 (0, 0))) := ⟨h2_⟩
                    have n3_ : Aside0 (w81.heap[gb220]? = some (.cells #[.int .i64 a2_0, .int .i64 a2_1, .int .i64 a2_2, .int .i64 a2_3, .int .i64 a2_4, .string a2_5] 24 (0, 0))) := ⟨h3_⟩
                    have n4_ : Aside0 (w81.heap[gb221]? = some (.cells #[.int .i64 a3_0, .int .i64 a3_1] 26 (0, 0))) := ⟨h4_⟩
                    have n5_ : Aside0 (w81.heap[gb228]? = some (.cells #[.int .i64 t224, .slice Ao77 t225.length co77] 32 (0, 0))) := ⟨h5_⟩
                    have n6_ : Aside0 (Below w.heap.size w w81) := ⟨h6_⟩
                    clear HO227
                    clear BK219
                    clear BK220
                    clear BK221
                    clear BK228
                    clear HB
                    clear h0_ h1_ h2_ h3_ h4_ h5_ h6_
                    have HO227 := n0_
                    have HO231 := n1_
                    have BK219 := n2_
                    have BK220 := n3_
                    have BK221 := n4_
                    have BK228 := n5_
                    have HB := n6_
                    clear n0_ n1_ n2_ n3_ n4_ n5_ n6_
                    have hHeld : w81.cell? ⟨gb219, 0, none⟩ = some (.int .i64 a1_0) ∧ w81.cell? ⟨gb219, 1, none⟩ = some (.int .i64 a1_1) ∧ w81.cell? ⟨gb219, 2, none⟩ = some (.int .i64 a1_2) ∧ w81.cell? ⟨gb219, 3, none⟩ = some (.int .i64 a1_3) ∧ w81.cell? ⟨gb219, 4, none⟩ = some (.int .i64 a1_4) ∧ w81.cell? ⟨gb219, 5, none⟩ = some (.int .i64 a1_5) ∧ w81.cell? ⟨gb219, 6, none⟩ = some (.int .i64 a1_6) ∧ w81.cell? ⟨gb219, 7, none⟩ = some (.string a1_7) ∧ w81.cell? ⟨gb219, 8, none⟩ = some (.int .i64 a1_8) ∧ w81.cell? ⟨gb220, 0, none⟩ = some (.int .i64 a2_0) ∧ w81.cell? ⟨gb220, 1, none⟩ = some (.int .i64 a2_1) ∧ w81.cell? ⟨gb220, 2, none⟩ = some (.int .i64 a2_2) ∧ w81.cell? ⟨gb220, 3, none⟩ = some (.int .i64 a2_3) ∧ w81.cell? ⟨gb220, 4, none⟩ = some (.int .i64 a2_4) ∧ w81.cell? ⟨gb220, 5, none⟩ = some (.string a2_5) ∧ w81.cell? ⟨gb221, 0, none⟩ = some (.int .i64 a3_0) ∧ w81.cell? ⟨gb221, 1, none⟩ = some (.int .i64 a3_1) := hS_
                    refine norm_ (a' := ?_) ?_ ?_
                    rotate_left
                    ·
                     simp only [putAll, Act.put, List.setIfInBounds_toArray, List.set_cons_zero, List.set_cons_succ]
                     rfl
                    refine two_ (i := 3) (j := 9) (Ni := some 49) (Nj := some 14) q8_11 q8_10 rfl rfl rfl rfl (two_of HT_.out (by kernel_rfl)) (by decide) (by decide) (fun K hK => ?_) (fun K hK => ?_)
                    ·
                     skip
                     refine Kd.R_lit_step k29 _ 29 ?hg (N := 49) ?hd (xs := ([(⟨(⟨a1_0, a1_1⟩ : S26), (⟨a1_2, a1_3, a1_4, a1_5, a1_6, a1_7⟩ : S24), a1_8⟩ : S29)] : List (S29))) (inner := [.int .i64 a1_0, .int .i64 a1_1, .int .i64 a1_2, .int .i64 a1_3, .int .i64 a1_4, .int .i64 a1_5, .int .i64 a1_6, .string a1_7, .int .i64 a1_8]) (ok := fun _ => True) (okp := fun _ => True) ?hr ?hp (fun _ hk => hk) trivial (Below.refl _ _) (Nat.le_refl _) (by simp) ?_; (case hd => rfl); (case hg => rfl); (case hr => first | (go_simp; done) | (go_simp; rfl)); (case hp => exact (Reps.c9 (show Kd.M k29 _ _ _ (⟨(⟨a1_0, a1_1⟩ : S26), (⟨a1_2, a1_3, a1_4, a1_5, a1_6, a1_7⟩ : S24), a1_8⟩ : S29) [.int .i64 a1_0, .int .i64 a1_1, .int .i64 a1_2, .int .i64 a1_3, .int .i64 a1_4, .int .i64 a1_5, .int .i64 a1_6, .string a1_7, .int .i64 a1_8] from (k29_mkM _ _ _ (⟨(⟨a1_0, a1_1⟩ : S26), (⟨a1_2, a1_3, a1_4, a1_5, a1_6, a1_7⟩ : S24), a1_8⟩ : S29) )) (Reps.none _ _)))
                     intro v233 w82 ho83 hb hg_ hnew_
                     clear hg_ hnew_
                     (first | rw [← Ny232.out] at ho83 | (simp only [Int.reduceToNat] at ho83; rw [← Ny232.out] at ho83))
                     have n0_ := Aside0.mk (Kd.R_below (Kd.rk HO227) hb)
                     have n1_ := Aside0.mk (Kd.R_elder' (Kd.rk HO231) (Kd.R_base ho83) hb)
                     have n2_ := Aside0.mk (Kd.R_lower (Kd.R_newB (Kd.R_new' ho83 (Kd.R_lt (Kd.rk HO231))) (g := gb219) (bk BK219)) (below_size (gw_ HB)))
                     have n3_ := Aside0.mk (blk_below (g := gb219) (bk BK219) hb)
                     have n4_ := Aside0.mk (blk_below (g := gb220) (bk BK220) hb)
                     have n5_ := Aside0.mk (blk_below (g := gb221) (bk BK221) hb)
                     have n6_ := Aside0.mk (blk_below (g := gb228) (bk BK228) hb)
                     have n7_ := Aside0.mk (below_step (gw_ HB) hb)
                     clear HO227
                     clear HO231
                     clear BK219
                     clear BK220
                     clear BK221
                     clear BK228
                     clear HB
                     have HO227 := n0_
                     have HO231 := n1_
                     have HO234 := n2_
                     have BK219 := n3_
                     have BK220 := n4_
                     have BK221 := n5_
                     have BK228 := n6_
                     have HB := n7_
                     clear n0_ n1_ n2_ n3_ n4_ n5_ n6_ n7_
                     clear hb ho83
                     refine hK.out _ _ ⟨(blk_cell BK219.out 0).trans rfl, (blk_cell BK219.out 1).trans rfl, (blk_cell BK219.out 2).trans rfl, (blk_cell BK219.out 3).trans rfl, (blk_cell BK219.out 4).trans rfl, (blk_cell BK219.out 5).trans rfl, (blk_cell BK219.out 6).trans rfl, (blk_cell BK219.out 7).trans rfl, (blk_cell BK219.out 8).trans rfl, (blk_cell BK220.out 0).trans rfl, (blk_cell BK220.out 1).trans rfl, (blk_cell BK220.out 2).trans rfl, (blk_cell BK220.out 3).trans rfl, (blk_cell BK220.out 4).trans rfl, (blk_cell BK220.out 5).trans rfl, (blk_cell BK221.out 0).trans rfl, (blk_cell BK221.out 1).trans rfl⟩ (fun hHeld => ?_)
                     clear hK K
                     refine norm_ (a' := ?_) ?_ ?_
                     rotate_left
                     ·
                      show Act.put _ (some 49) _ = _
                      simp only [Act.put, List.setIfInBounds_toArray, List.set_cons_zero, List.set_cons_succ, i64_w, i32_w]
                      rfl
                     exact norm_ (by first | (simp only [putAll, Act.put, List.setIfInBounds_toArray, List.set_cons_zero, List.set_cons_succ]; done) | (simp only [putAll, Act.put, List.setIfInBounds_toArray, List.set_cons_zero, List.set_cons_succ]; rfl)) (hJ1_3 (v230, v233) _ ⟨hHeld, (Kd.rk HO227), (by (with_reducible repeat (first | apply Kd.R_alloc | apply Kd.R_drewN | apply Kd.R_drew)); exact Kd.R_mono HO231.out (fun _ hk => ⟨hk.2, hk.1⟩)), (by (with_reducible repeat (first | apply Kd.R_alloc | apply Kd.R_drewN | apply Kd.R_drew)); exact Kd.R_mono HO234.out (fun _ hk => ⟨hk.1.2, hk.2⟩)), (bk BK219), (bk BK220), (bk BK221), (bk BK228), (gw_ HB)⟩)
                    ·
                     skip
                     refine box_step ?hg (N := 14) ?hd (cs := #[.int .i64 0, .slice none 0 0]) (t := 32) ?hr ?_; (case hd => rfl); (case hg => rfl); (case hr => first | (go_simp; done) | (go_simp; rfl))
                     intro gb242 hg w82 hbox hb
                     have n0_ := Aside0.mk (Kd.R_below (Kd.rk HO227) hb)
                     have n1_ := Aside0.mk (Kd.R_below (Kd.rk HO231) hb)
                     have n2_ := Aside0.mk (blk_below (g := gb219) (bk BK219) hb)
                     have n3_ := Aside0.mk (blk_below (g := gb220) (bk BK220) hb)
                     have n4_ := Aside0.mk (blk_below (g := gb221) (bk BK221) hb)
                     have n5_ := Aside0.mk (blk_below (g := gb228) (bk BK228) hb)
                     have n6_ := Aside0.mk (below_step (gw_ HB) hb)
                     have n7_ := Aside0.mk (hbox)
                     have n8_ := Aside0.mk ((by rw [hg]; exact (below_size (gw_ HB)) : w.heap.size ≤ gb242))
                     have n9_ := Aside0.mk ((by rw [hg]; exact (below_size (gw_ HB)) : w.heap.size ≤ gb242))
                     have n10_ := Aside0.mk ((by rw [hg]; exact Nat.ne_of_lt (blk_lt (g := gb219) (bk BK219)) : gb219 ≠ gb242))
                     have n11_ := Aside0.mk ((by rw [hg]; exact Nat.ne_of_gt (blk_lt (g := gb219) (bk BK219)) : gb242 ≠ gb219))
                     have n12_ := Aside0.mk ((by rw [hg]; exact Nat.ne_of_lt (blk_lt (g := gb220) (bk BK220)) : gb220 ≠ gb242))
                     have n13_ := Aside0.mk ((by rw [hg]; exact Nat.ne_of_gt (blk_lt (g := gb220) (bk BK220)) : gb242 ≠ gb220))
                     have n14_ := Aside0.mk ((by rw [hg]; exact Nat.ne_of_lt (blk_lt (g := gb221) (bk BK221)) : gb221 ≠ gb242))
                     have n15_ := Aside0.mk ((by rw [hg]; exact Nat.ne_of_gt (blk_lt (g := gb221) (bk BK221)) : gb242 ≠ gb221))
                     have n16_ := Aside0.mk ((by rw [hg]; exact Nat.ne_of_lt (blk_lt (g := gb228) (bk BK228)) : gb228 ≠ gb242))
                     have n17_ := Aside0.mk ((by rw [hg]; exact Nat.ne_of_gt (blk_lt (g := gb228) (bk BK228)) : gb242 ≠ gb228))
                     clear HO227
                     clear HO231
                     clear BK219
                     clear BK220
                     clear BK221
                     clear BK228
                     clear HB
                     have HO227 := n0_
                     have HO231 := n1_
                     have BK219 := n2_
                     have BK220 := n3_
                     have BK221 := n4_
                     have BK228 := n5_
                     have HB := n6_
                     have BK242 := n7_
                     have GW242 := n8_
                     have GE242 := n9_
                     have NB219_242 := n10_
                     have NB242_219 := n11_
                     have NB220_242 := n12_
                     have NB242_220 := n13_
                     have NB221_242 := n14_
                     have NB242_221 := n15_
                     have NB228_242 := n16_
                     have NB242_228 := n17_
                     clear n0_ n1_ n2_ n3_ n4_ n5_ n6_ n7_ n8_ n9_ n10_ n11_ n12_ n13_ n14_ n15_ n16_ n17_
                     clear hb hbox hg
                     refine hK.out _ _ ⟨(blk_cell BK219.out 0).trans rfl, (blk_cell BK219.out 1).trans rfl, (blk_cell BK219.out 2).trans rfl, (blk_cell BK219.out 3).trans rfl, (blk_cell BK219.out 4).trans rfl, (blk_cell BK219.out 5).trans rfl, (blk_cell BK219.out 6).trans rfl, (blk_cell BK219.out 7).trans rfl, (blk_cell BK219.out 8).trans rfl, (blk_cell BK220.out 0).trans rfl, (blk_cell BK220.out 1).trans rfl, (blk_cell BK220.out 2).trans rfl, (blk_cell BK220.out 3).trans rfl, (blk_cell BK220.out 4).trans rfl, (blk_cell BK220.out 5).trans rfl, (blk_cell BK221.out 0).trans rfl, (blk_cell BK221.out 1).trans rfl⟩ (fun hHeld => ?_)
                     clear hK K
                     refine norm_ (a' := ?_) ?_ ?_
                     rotate_left
                     ·
                      show Act.put _ (some 14) _ = _
                      simp only [Act.put, List.setIfInBounds_toArray, List.set_cons_zero, List.set_cons_succ, i64_w, i32_w]
                      rfl
                     exact norm_ (by first | (simp only [putAll, Act.put, List.setIfInBounds_toArray, List.set_cons_zero, List.set_cons_succ]; done) | (simp only [putAll, Act.put, List.setIfInBounds_toArray, List.set_cons_zero, List.set_cons_succ]; rfl)) (hJ1_9 (v230, gb242) _ ⟨hHeld, (Kd.rk HO227), (Kd.rk HO231), (bk BK219), (bk BK220), (bk BK221), (bk BK228), (bk BK242), GW242.out, GE242.out, NB219_242.out, NB242_219.out, NB220_242.out, NB242_220.out, NB221_242.out, NB242_221.out, NB228_242.out, NB242_228.out, (gw_ HB)⟩)
                  ·
                   skip
                   rintro ⟨v233, gb242⟩ w83 ⟨hS_, h0_, h1_, h2_, h3_, h4_, h5_, h6_, h7_, h8_, h9_, h10_, h11_, h12_, h13_, h14_, h15_, h16_, h17_⟩
                   have n0_ : Aside0 (Kd.R (Kd.int .i64) 3 w83 w.heap.size (fun _ => True) (.slice Ao77 t225.length co77) t225) := ⟨h0_⟩
                   have n1_ : Aside0 (Kd.R k29 29 w83 w.heap.size (fun k_ => k_ ≠ gb219) v233 y232) := ⟨h1_⟩
                   have n2_ : Aside0 (w83.heap[gb219]? = some (.cells #[.int .i64 a1_0, .int .i64 a1_1, .int .i64 a1_2, .int .i64 a1_3, .int .i64 a1_4, .int .i64 a1_5, .int .i64 a1_6, .string a1_7, .int .i64 a1_8] 29 (0, 0))) := ⟨h2_⟩
                   have n3_ : Aside0 (w83.heap[gb220]? = some (.cells #[.int .i64 a2_0, .int .i64 a2_1, .int .i64 a2_2, .int .i64 a2_3, .int .i64 a2_4, .string a2_5] 24 (0, 0))) := ⟨h3_⟩
                   have n4_ : Aside0 (w83.heap[gb221]? = some (.cells #[.int .i64 a3_0, .int .i64 a3_1] 26 (0, 0))) := ⟨h4_⟩
                   have n5_ : Aside0 (w83.heap[gb228]? = some (.cells #[.int .i64 t224, .slice Ao77 t225.length co77] 32 (0, 0))) := ⟨h5_⟩
                   have n6_ : Aside0 (w83.heap[gb242]? = some (.cells #[.int .i64 0, .slice none 0 0] 32 (0, 0))) := ⟨h6_⟩
                   have n7_ : Aside0 (w.heap.size ≤ gb242) := ⟨h7_⟩
                   have n8_ : Aside0 (w.heap.size ≤ gb242) := ⟨h8_⟩
                   have n9_ : Aside0 (gb219 ≠ gb242) := ⟨h9_⟩
                   have n10_ : Aside0 (gb242 ≠ gb219) := ⟨h10_⟩
                   have n11_ : Aside0 (gb220 ≠ gb242) := ⟨h11_⟩
                   have n12_ : Aside0 (gb242 ≠ gb220) := ⟨h12_⟩
                   have n13_ : Aside0 (gb221 ≠ gb242) := ⟨h13_⟩
                   have n14_ : Aside0 (gb242 ≠ gb221) := ⟨h14_⟩
                   have n15_ : Aside0 (gb228 ≠ gb242) := ⟨h15_⟩
                   have n16_ : Aside0 (gb242 ≠ gb228) := ⟨h16_⟩
                   have n17_ : Aside0 (Below w.heap.size w w83) := ⟨h17_⟩
                   clear HO227
                   clear BK219
                   clear BK220
                   clear BK221
                   clear BK228
                   clear HB
                   clear h0_ h1_ h2_ h3_ h4_ h5_ h6_ h7_ h8_ h9_ h10_ h11_ h12_ h13_ h14_ h15_ h16_ h17_
                   have HO227 := n0_
                   have HO234 := n1_
                   have BK219 := n2_
                   have BK220 := n3_
                   have BK221 := n4_
                   have BK228 := n5_
                   have BK242 := n6_
                   have GW242 := n7_
                   have GE242 := n8_
                   have NB219_242 := n9_
                   have NB242_219 := n10_
                   have NB220_242 := n11_
                   have NB242_220 := n12_
                   have NB221_242 := n13_
                   have NB242_221 := n14_
                   have NB228_242 := n15_
                   have NB242_228 := n16_
                   have HB := n17_
                   clear n0_ n1_ n2_ n3_ n4_ n5_ n6_ n7_ n8_ n9_ n10_ n11_ n12_ n13_ n14_ n15_ n16_ n17_
                   have hHeld : w83.cell? ⟨gb219, 0, none⟩ = some (.int .i64 a1_0) ∧ w83.cell? ⟨gb219, 1, none⟩ = some (.int .i64 a1_1) ∧ w83.cell? ⟨gb219, 2, none⟩ = some (.int .i64 a1_2) ∧ w83.cell? ⟨gb219, 3, none⟩ = some (.int .i64 a1_3) ∧ w83.cell? ⟨gb219, 4, none⟩ = some (.int .i64 a1_4) ∧ w83.cell? ⟨gb219, 5, none⟩ = some (.int .i64 a1_5) ∧ w83.cell? ⟨gb219, 6, none⟩ = some (.int .i64 a1_6) ∧ w83.cell? ⟨gb219, 7, none⟩ = some (.string a1_7) ∧ w83.cell? ⟨gb219, 8, none⟩ = some (.int .i64 a1_8) ∧ w83.cell? ⟨gb220, 0, none⟩ = some (.int .i64 a2_0) ∧ w83.cell? ⟨gb220, 1, none⟩ = some (.int .i64 a2_1) ∧ w83.cell? ⟨gb220, 2, none⟩ = some (.int .i64 a2_2) ∧ w83.cell? ⟨gb220, 3, none⟩ = some (.int .i64 a2_3) ∧ w83.cell? ⟨gb220, 4, none⟩ = some (.int .i64 a2_4) ∧ w83.cell? ⟨gb220, 5, none⟩ = some (.string a2_5) ∧ w83.cell? ⟨gb221, 0, none⟩ = some (.int .i64 a3_0) ∧ w83.cell? ⟨gb221, 1, none⟩ = some (.int .i64 a3_1) := hS_
                   refine norm_ (a' := ?_) ?_ ?_
                   rotate_left
                   ·
                    simp only [putAll, Act.put, List.setIfInBounds_toArray, List.set_cons_zero, List.set_cons_succ]
                    rfl
                   refine one_ (i := 1) (N := some 47) q8_12 rfl rfl (one_of HT_.out (by kernel_rfl)) (by decide) (fun K hK => ?_)
                   refine Kd.R_append_rows_step k29 (w0 := w) w.heap.size (by rfl) (.const (.slice none 0 0)) (.tmp 46) 22 29 (.agg #[(.int .i64 0), (.int .i64 0), (.int .i64 0), (.int .i64 0), (.int .i64 0), (.int .i64 0), (.int .i64 0), (.string ⟨#[]⟩), (.int .i64 0)]) 80 rfl Try.underlying22 info29 rfl (by decide) (by omega) (.slice none 0 0) ([] : List (S29)) l0 _ _ _ (fun k_ => some k_ ≠ (v233 : Value).ownBlock ∧ k_ ≠ gb219) (fun _ => False) rfl rfl ?aO ?aR (fun _ _ h => h) (fun _ h => h.elim) ?aF ?aB ?aS ?aL ?_
                   (case aR => repeat (first | exact (Kd.C_below HR0.out HB.out) | (with_reducible refine Kd.C_alloc ?_ _) | (with_reducible refine Kd.C_drewN ?_ _) | (with_reducible refine Kd.C_drew ?_)))
                   (case aB => exact (gw_ HB))
                   (case aF => exact (fun k_ hk => ⟨Kd.fresh' (Kd.R_lt (Kd.rk HO234)) k_ hk, Kd.freshB (g := gb219) (bk BK219) k_ hk⟩))
                   (case aO => exact ((Kd.R_nil _ _ _ _ (fun k_ => some k_ ≠ (v233 : Value).ownBlock ∧ k_ ≠ gb219))))
                   (case aS => exact (below_size (gw_ HB)))
                   (case aL => have := LMc22.out; omega)
                   intro v230 w84 ho hb hg hat
                   rw [← Ny229.out] at ho
                   have n0_ := Aside0.mk (blk_grown (g := gb219) (bk BK219) hg (by simp [Value.ownBlock]))
                   have n1_ := Aside0.mk (blk_grown (g := gb220) (bk BK220) hg (by simp [Value.ownBlock]))
                   have n2_ := Aside0.mk (blk_grown (g := gb221) (bk BK221) hg (by simp [Value.ownBlock]))
                   have n3_ := Aside0.mk (Kd.R_grown (Kd.rk HO227) hg (fun _ _ => by simp [Value.ownBlock]))
                   have n4_ := Aside0.mk (blk_grown (g := gb228) (bk BK228) hg (by simp [Value.ownBlock]))
                   have n5_ := Aside0.mk (Kd.R_after (Kd.R_apart_nil (Kd.rk HO234)) hg hat)
                   have n6_ := Aside0.mk (blk_grown (g := gb242) (bk BK242) hg (by simp [Value.ownBlock]))
                   have n7_ := Aside0.mk (hb)
                   have n8_ := Aside0.mk (ho)
                   clear BK219
                   clear BK220
                   clear BK221
                   clear HO227
                   clear BK228
                   clear HO234
                   clear BK242
                   clear HB
                   have BK219 := n0_
                   have BK220 := n1_
                   have BK221 := n2_
                   have HO227 := n3_
                   have BK228 := n4_
                   have HO234 := n5_
                   have BK242 := n6_
                   have HB := n7_
                   have HO231 := n8_
                   clear n0_ n1_ n2_ n3_ n4_ n5_ n6_ n7_ n8_
                   clear ho hb hg hat
                   refine hK.out _ _ ⟨(blk_cell BK219.out 0).trans rfl, (blk_cell BK219.out 1).trans rfl, (blk_cell BK219.out 2).trans rfl, (blk_cell BK219.out 3).trans rfl, (blk_cell BK219.out 4).trans rfl, (blk_cell BK219.out 5).trans rfl, (blk_cell BK219.out 6).trans rfl, (blk_cell BK219.out 7).trans rfl, (blk_cell BK219.out 8).trans rfl, (blk_cell BK220.out 0).trans rfl, (blk_cell BK220.out 1).trans rfl, (blk_cell BK220.out 2).trans rfl, (blk_cell BK220.out 3).trans rfl, (blk_cell BK220.out 4).trans rfl, (blk_cell BK220.out 5).trans rfl, (blk_cell BK221.out 0).trans rfl, (blk_cell BK221.out 1).trans rfl⟩ (fun hHeld => ?_)
                   clear hK K
                   refine norm_ (a' := ?_) ?_ ?_
                   rotate_left
                   ·
                    show Act.put _ (some 47) _ = _
                    simp only [Act.put, List.setIfInBounds_toArray, List.set_cons_zero, List.set_cons_succ, i64_w, i32_w]
                    rfl
                   exact norm_ (by first | (simp only [putAll, Act.put, List.setIfInBounds_toArray, List.set_cons_zero, List.set_cons_succ]; done) | (simp only [putAll, Act.put, List.setIfInBounds_toArray, List.set_cons_zero, List.set_cons_succ]; rfl)) (hJ1_3_9 (v230, v233, gb242) _ ⟨hHeld, (Kd.rk HO227), (Kd.rk HO231), (by (with_reducible repeat (first | apply Kd.R_alloc | apply Kd.R_drewN | apply Kd.R_drew)); exact Kd.R_mono HO234.out (fun _ hk => ⟨hk.2, hk.1⟩)), (bk BK219), (bk BK220), (bk BK221), (bk BK228), (bk BK242), GW242.out, GE242.out, NB219_242.out, NB242_219.out, NB220_242.out, NB242_220.out, NB221_242.out, NB242_221.out, NB228_242.out, NB242_228.out, (gw_ HB)⟩)
                 ·
                  skip
                  rintro ⟨v230, gb242⟩ w82 ⟨hS_, h0_, h1_, h2_, h3_, h4_, h5_, h6_, h7_, h8_, h9_, h10_, h11_, h12_, h13_, h14_, h15_, h16_, h17_⟩
                  have n0_ : Aside0 (Kd.R (Kd.int .i64) 3 w82 w.heap.size (fun _ => True) (.slice Ao77 t225.length co77) t225) := ⟨h0_⟩
                  have n1_ : Aside0 (Kd.R k29 29 w82 w.heap.size (fun k_ => k_ ≠ gb219) v230 y229) := ⟨h1_⟩
                  have n2_ : Aside0 (w82.heap[gb219]? = some (.cells #[.int .i64 a1_0, .int .i64 a1_1, .int .i64 a1_2, .int .i64 a1_3, .int .i64 a1_4, .int .i64 a1_5, .int .i64 a1_6, .string a1_7, .int .i64 a1_8] 29 (0, 0))) := ⟨h2_⟩
                  have n3_ : Aside0 (w82.heap[gb220]? = some (.cells #[.int .i64 a2_0, .int .i64 a2_1, .int .i64 a2_2, .int .i64 a2_3, .int .i64 a2_4, .string a2_5] 24 (0, 0))) := ⟨h3_⟩
                  have n4_ : Aside0 (w82.heap[gb221]? = some (.cells #[.int .i64 a3_0, .int .i64 a3_1] 26 (0, 0))) := ⟨h4_⟩
                  have n5_ : Aside0 (w82.heap[gb228]? = some (.cells #[.int .i64 t224, .slice Ao77 t225.length co77] 32 (0, 0))) := ⟨h5_⟩
                  have n6_ : Aside0 (w82.heap[gb242]? = some (.cells #[.int .i64 0, .slice none 0 0] 32 (0, 0))) := ⟨h6_⟩
                  have n7_ : Aside0 (w.heap.size ≤ gb242) := ⟨h7_⟩
                  have n8_ : Aside0 (w.heap.size ≤ gb242) := ⟨h8_⟩
                  have n9_ : Aside0 (gb219 ≠ gb242) := ⟨h9_⟩
                  have n10_ : Aside0 (gb242 ≠ gb219) := ⟨h10_⟩
                  have n11_ : Aside0 (gb220 ≠ gb242) := ⟨h11_⟩
                  have n12_ : Aside0 (gb242 ≠ gb220) := ⟨h12_⟩
                  have n13_ : Aside0 (gb221 ≠ gb242) := ⟨h13_⟩
                  have n14_ : Aside0 (gb242 ≠ gb221) := ⟨h14_⟩
                  have n15_ : Aside0 (gb228 ≠ gb242) := ⟨h15_⟩
                  have n16_ : Aside0 (gb242 ≠ gb228) := ⟨h16_⟩
                  have n17_ : Aside0 (Below w.heap.size w w82) := ⟨h17_⟩
                  clear HO227
                  clear BK219
                  clear BK220
                  clear BK221
                  clear BK228
                  clear HB
                  clear h0_ h1_ h2_ h3_ h4_ h5_ h6_ h7_ h8_ h9_ h10_ h11_ h12_ h13_ h14_ h15_ h16_ h17_
                  have HO227 := n0_
                  have HO231 := n1_
                  have BK219 := n2_
                  have BK220 := n3_
                  have BK221 := n4_
                  have BK228 := n5_
                  have BK242 := n6_
                  have GW242 := n7_
                  have GE242 := n8_
                  have NB219_242 := n9_
                  have NB242_219 := n10_
                  have NB220_242 := n11_
                  have NB242_220 := n12_
                  have NB221_242 := n13_
                  have NB242_221 := n14_
                  have NB228_242 := n15_
                  have NB242_228 := n16_
                  have HB := n17_
                  clear n0_ n1_ n2_ n3_ n4_ n5_ n6_ n7_ n8_ n9_ n10_ n11_ n12_ n13_ n14_ n15_ n16_ n17_
                  have hHeld : w82.cell? ⟨gb219, 0, none⟩ = some (.int .i64 a1_0) ∧ w82.cell? ⟨gb219, 1, none⟩ = some (.int .i64 a1_1) ∧ w82.cell? ⟨gb219, 2, none⟩ = some (.int .i64 a1_2) ∧ w82.cell? ⟨gb219, 3, none⟩ = some (.int .i64 a1_3) ∧ w82.cell? ⟨gb219, 4, none⟩ = some (.int .i64 a1_4) ∧ w82.cell? ⟨gb219, 5, none⟩ = some (.int .i64 a1_5) ∧ w82.cell? ⟨gb219, 6, none⟩ = some (.int .i64 a1_6) ∧ w82.cell? ⟨gb219, 7, none⟩ = some (.string a1_7) ∧ w82.cell? ⟨gb219, 8, none⟩ = some (.int .i64 a1_8) ∧ w82.cell? ⟨gb220, 0, none⟩ = some (.int .i64 a2_0) ∧ w82.cell? ⟨gb220, 1, none⟩ = some (.int .i64 a2_1) ∧ w82.cell? ⟨gb220, 2, none⟩ = some (.int .i64 a2_2) ∧ w82.cell? ⟨gb220, 3, none⟩ = some (.int .i64 a2_3) ∧ w82.cell? ⟨gb220, 4, none⟩ = some (.int .i64 a2_4) ∧ w82.cell? ⟨gb220, 5, none⟩ = some (.string a2_5) ∧ w82.cell? ⟨gb221, 0, none⟩ = some (.int .i64 a3_0) ∧ w82.cell? ⟨gb221, 1, none⟩ = some (.int .i64 a3_1) := hS_
                  refine norm_ (a' := ?_) ?_ ?_
                  rotate_left
                  ·
                   simp only [putAll, Act.put, List.setIfInBounds_toArray, List.set_cons_zero, List.set_cons_succ]
                   rfl
                  refine one_ (i := 3) (N := some 49) q8_12 rfl rfl (one_of HT_.out (by kernel_rfl)) (by decide) (fun K hK => ?_)
                  refine Kd.R_lit_step k29 _ 29 ?hg (N := 49) ?hd (xs := ([(⟨(⟨a1_0, a1_1⟩ : S26), (⟨a1_2, a1_3, a1_4, a1_5, a1_6, a1_7⟩ : S24), a1_8⟩ : S29)] : List (S29))) (inner := [.int .i64 a1_0, .int .i64 a1_1, .int .i64 a1_2, .int .i64 a1_3, .int .i64 a1_4, .int .i64 a1_5, .int .i64 a1_6, .string a1_7, .int .i64 a1_8]) (ok := fun _ => True) (okp := fun _ => True) ?hr ?hp (fun _ hk => hk) trivial (Below.refl _ _) (Nat.le_refl _) (by simp) ?_; (case hd => rfl); (case hg => rfl); (case hr => first | (go_simp; done) | (go_simp; rfl)); (case hp => exact (Reps.c9 (show Kd.M k29 _ _ _ (⟨(⟨a1_0, a1_1⟩ : S26), (⟨a1_2, a1_3, a1_4, a1_5, a1_6, a1_7⟩ : S24), a1_8⟩ : S29) [.int .i64 a1_0, .int .i64 a1_1, .int .i64 a1_2, .int .i64 a1_3, .int .i64 a1_4, .int .i64 a1_5, .int .i64 a1_6, .string a1_7, .int .i64 a1_8] from (k29_mkM _ _ _ (⟨(⟨a1_0, a1_1⟩ : S26), (⟨a1_2, a1_3, a1_4, a1_5, a1_6, a1_7⟩ : S24), a1_8⟩ : S29) )) (Reps.none _ _)))
                  intro v233 w83 ho84 hb hg_ hnew_
                  clear hg_ hnew_
                  (first | rw [← Ny232.out] at ho84 | (simp only [Int.reduceToNat] at ho84; rw [← Ny232.out] at ho84))
                  have n0_ := Aside0.mk (Kd.R_below (Kd.rk HO227) hb)
                  have n1_ := Aside0.mk (Kd.R_elder' (Kd.rk HO231) (Kd.R_base ho84) hb)
                  have n2_ := Aside0.mk (Kd.R_lower (Kd.R_newB (Kd.R_new' ho84 (Kd.R_lt (Kd.rk HO231))) (g := gb219) (bk BK219)) (below_size (gw_ HB)))
                  have n3_ := Aside0.mk (blk_below (g := gb219) (bk BK219) hb)
                  have n4_ := Aside0.mk (blk_below (g := gb220) (bk BK220) hb)
                  have n5_ := Aside0.mk (blk_below (g := gb221) (bk BK221) hb)
                  have n6_ := Aside0.mk (blk_below (g := gb228) (bk BK228) hb)
                  have n7_ := Aside0.mk (blk_below (g := gb242) (bk BK242) hb)
                  have n8_ := Aside0.mk (below_step (gw_ HB) hb)
                  clear HO227
                  clear HO231
                  clear BK219
                  clear BK220
                  clear BK221
                  clear BK228
                  clear BK242
                  clear HB
                  have HO227 := n0_
                  have HO231 := n1_
                  have HO234 := n2_
                  have BK219 := n3_
                  have BK220 := n4_
                  have BK221 := n5_
                  have BK228 := n6_
                  have BK242 := n7_
                  have HB := n8_
                  clear n0_ n1_ n2_ n3_ n4_ n5_ n6_ n7_ n8_
                  clear hb ho84
                  refine hK.out _ _ ⟨(blk_cell BK219.out 0).trans rfl, (blk_cell BK219.out 1).trans rfl, (blk_cell BK219.out 2).trans rfl, (blk_cell BK219.out 3).trans rfl, (blk_cell BK219.out 4).trans rfl, (blk_cell BK219.out 5).trans rfl, (blk_cell BK219.out 6).trans rfl, (blk_cell BK219.out 7).trans rfl, (blk_cell BK219.out 8).trans rfl, (blk_cell BK220.out 0).trans rfl, (blk_cell BK220.out 1).trans rfl, (blk_cell BK220.out 2).trans rfl, (blk_cell BK220.out 3).trans rfl, (blk_cell BK220.out 4).trans rfl, (blk_cell BK220.out 5).trans rfl, (blk_cell BK221.out 0).trans rfl, (blk_cell BK221.out 1).trans rfl⟩ (fun hHeld => ?_)
                  clear hK K
                  refine norm_ (a' := ?_) ?_ ?_
                  rotate_left
                  ·
                   show Act.put _ (some 49) _ = _
                   simp only [Act.put, List.setIfInBounds_toArray, List.set_cons_zero, List.set_cons_succ, i64_w, i32_w]
                   rfl
                  exact norm_ (by first | (simp only [putAll, Act.put, List.setIfInBounds_toArray, List.set_cons_zero, List.set_cons_succ]; done) | (simp only [putAll, Act.put, List.setIfInBounds_toArray, List.set_cons_zero, List.set_cons_succ]; rfl)) (hJ1_3_9 (v230, v233, gb242) _ ⟨hHeld, (Kd.rk HO227), (by (with_reducible repeat (first | apply Kd.R_alloc | apply Kd.R_drewN | apply Kd.R_drew)); exact Kd.R_mono HO231.out (fun _ hk => ⟨hk.2, hk.1⟩)), (by (with_reducible repeat (first | apply Kd.R_alloc | apply Kd.R_drewN | apply Kd.R_drew)); exact Kd.R_mono HO234.out (fun _ hk => ⟨hk.1.2, hk.2⟩)), (bk BK219), (bk BK220), (bk BK221), (bk BK228), (bk BK242), GW242.out, GE242.out, NB219_242.out, NB242_219.out, NB220_242.out, NB242_220.out, NB221_242.out, NB242_221.out, NB228_242.out, NB242_228.out, (gw_ HB)⟩)
                ·
                 skip
                 rintro ⟨v230, v233⟩ w83 ⟨hS_, h0_, h1_, h2_, h3_, h4_, h5_, h6_, h7_⟩
                 have n0_ : Aside0 (Kd.R (Kd.int .i64) 3 w83 w.heap.size (fun _ => True) (.slice Ao77 t225.length co77) t225) := ⟨h0_⟩
                 have n1_ : Aside0 (Kd.R k29 29 w83 w.heap.size (fun k_ => some k_ ≠ (v233 : Value).ownBlock ∧ k_ ≠ gb219) v230 y229) := ⟨h1_⟩
                 have n2_ : Aside0 (Kd.R k29 29 w83 w.heap.size (fun k_ => some k_ ≠ (v230 : Value).ownBlock ∧ k_ ≠ gb219) v233 y232) := ⟨h2_⟩
                 have n3_ : Aside0 (w83.heap[gb219]? = some (.cells #[.int .i64 a1_0, .int .i64 a1_1, .int .i64 a1_2, .int .i64 a1_3, .int .i64 a1_4, .int .i64 a1_5, .int .i64 a1_6, .string a1_7, .int .i64 a1_8] 29 (0, 0))) := ⟨h3_⟩
                 have n4_ : Aside0 (w83.heap[gb220]? = some (.cells #[.int .i64 a2_0, .int .i64 a2_1, .int .i64 a2_2, .int .i64 a2_3, .int .i64 a2_4, .string a2_5] 24 (0, 0))) := ⟨h4_⟩
                 have n5_ : Aside0 (w83.heap[gb221]? = some (.cells #[.int .i64 a3_0, .int .i64 a3_1] 26 (0, 0))) := ⟨h5_⟩
                 have n6_ : Aside0 (w83.heap[gb228]? = some (.cells #[.int .i64 t224, .slice Ao77 t225.length co77] 32 (0, 0))) := ⟨h6_⟩
                 have n7_ : Aside0 (Below w.heap.size w w83) := ⟨h7_⟩
                 clear HO227
                 clear BK219
                 clear BK220
                 clear BK221
                 clear BK228
                 clear HB
                 clear h0_ h1_ h2_ h3_ h4_ h5_ h6_ h7_
                 have HO227 := n0_
                 have HO231 := n1_
                 have HO234 := n2_
                 have BK219 := n3_
                 have BK220 := n4_
                 have BK221 := n5_
                 have BK228 := n6_
                 have HB := n7_
                 clear n0_ n1_ n2_ n3_ n4_ n5_ n6_ n7_
                 have hHeld : w83.cell? ⟨gb219, 0, none⟩ = some (.int .i64 a1_0) ∧ w83.cell? ⟨gb219, 1, none⟩ = some (.int .i64 a1_1) ∧ w83.cell? ⟨gb219, 2, none⟩ = some (.int .i64 a1_2) ∧ w83.cell? ⟨gb219, 3, none⟩ = some (.int .i64 a1_3) ∧ w83.cell? ⟨gb219, 4, none⟩ = some (.int .i64 a1_4) ∧ w83.cell? ⟨gb219, 5, none⟩ = some (.int .i64 a1_5) ∧ w83.cell? ⟨gb219, 6, none⟩ = some (.int .i64 a1_6) ∧ w83.cell? ⟨gb219, 7, none⟩ = some (.string a1_7) ∧ w83.cell? ⟨gb219, 8, none⟩ = some (.int .i64 a1_8) ∧ w83.cell? ⟨gb220, 0, none⟩ = some (.int .i64 a2_0) ∧ w83.cell? ⟨gb220, 1, none⟩ = some (.int .i64 a2_1) ∧ w83.cell? ⟨gb220, 2, none⟩ = some (.int .i64 a2_2) ∧ w83.cell? ⟨gb220, 3, none⟩ = some (.int .i64 a2_3) ∧ w83.cell? ⟨gb220, 4, none⟩ = some (.int .i64 a2_4) ∧ w83.cell? ⟨gb220, 5, none⟩ = some (.string a2_5) ∧ w83.cell? ⟨gb221, 0, none⟩ = some (.int .i64 a3_0) ∧ w83.cell? ⟨gb221, 1, none⟩ = some (.int .i64 a3_1) := hS_
                 obtain ⟨Ao85, co85, eo85⟩ := Kd.R_slice HO234.out
                 (first | subst eo85 | (injection eo85 with f1_ f2_ f3_; have f4_ := f1_.symm; have f5_ := f3_.symm; clear f1_ f2_ f3_; subst f4_; subst f5_))
                 refine norm_ (a' := ?_) ?_ ?_
                 rotate_left
                 ·
                  simp only [putAll, Act.put, List.setIfInBounds_toArray, List.set_cons_zero, List.set_cons_succ]
                  rfl
                 refine two_ (i := 4) (j := 9) (Ni := some 50) (Nj := some 14) q8_13 q8_12 rfl rfl rfl rfl (two_of HT_.out (by kernel_rfl)) (by decide) (by decide) (fun K hK => ?_) (fun K hK => ?_)
                 ·
                  skip
                  refine Kd.R_append_rows_step k29 (w0 := w) w.heap.size (by rfl) (.tmp 47) (.tmp 49) 22 29 (.agg #[(.int .i64 0), (.int .i64 0), (.int .i64 0), (.int .i64 0), (.int .i64 0), (.int .i64 0), (.int .i64 0), (.string ⟨#[]⟩), (.int .i64 0)]) 80 rfl Try.underlying22 info29 rfl (by decide) (by omega) v230 y229 y232 _ _ _ (fun k_ => some k_ ≠ (.slice Ao85 y232.length co85 : Value).ownBlock ∧ k_ ≠ gb219) (fun _ => False) rfl rfl ?aO ?aR (fun _ _ h => h) (fun _ h => h.elim) ?aF ?aB ?aS ?aL ?_
                  (case aR => repeat (first | exact (Kd.R_reads' HO234.out).2.2 | (with_reducible refine Kd.C_alloc ?_ _) | (with_reducible refine Kd.C_drewN ?_ _) | (with_reducible refine Kd.C_drew ?_)))
                  (case aB => exact (gw_ HB))
                  (case aF => exact (fun k_ hk => ⟨Kd.fresh' (Kd.R_lt (Kd.rk HO234)) k_ hk, Kd.freshB (g := gb219) (bk BK219) k_ hk⟩))
                  (case aO => exact (Kd.rk HO231))
                  (case aS => exact (below_size (gw_ HB)))
                  (case aL => have := LMc23.out; omega)
                  intro v236 w84 ho hb hg hat
                  rw [← Ny235.out] at ho
                  have n0_ := Aside0.mk (blk_grown (g := gb219) (bk BK219) hg (Kd.R_away HO231.out (fun _ hk => hk.2)))
                  have n1_ := Aside0.mk (blk_grown (g := gb220) (bk BK220) hg (Kd.R_ne HO231.out BK220.out (by decide)))
                  have n2_ := Aside0.mk (blk_grown (g := gb221) (bk BK221) hg (Kd.R_ne HO231.out BK221.out (by decide)))
                  have n3_ := Aside0.mk (Kd.R_over' (Kd.rk HO227) (Kd.R_typed (Kd.rk HO231)) (by decide) hg)
                  have n4_ := Aside0.mk (blk_grown (g := gb228) (bk BK228) hg (Kd.R_ne HO231.out BK228.out (by decide)))
                  have n5_ := Aside0.mk (Kd.R_after (ok := (fun k_ => k_ ≠ gb219)) (by (with_reducible repeat (first | apply Kd.R_alloc | apply Kd.R_drewN | apply Kd.R_drew)); exact Kd.R_mono HO234.out (fun _ hk => ⟨hk.2, hk.1⟩)) hg hat)
                  have n6_ := Aside0.mk (hb)
                  have n7_ := Aside0.mk (ho)
                  clear BK219
                  clear BK220
                  clear BK221
                  clear HO227
                  clear BK228
                  clear HO234
                  clear HB
                  clear HO231
                  have BK219 := n0_
                  have BK220 := n1_
                  have BK221 := n2_
                  have HO227 := n3_
                  have BK228 := n4_
                  have HO234 := n5_
                  have HB := n6_
                  have HO237 := n7_
                  clear n0_ n1_ n2_ n3_ n4_ n5_ n6_ n7_
                  clear ho hb hg hat
                  refine hK.out _ _ ⟨(blk_cell BK219.out 0).trans rfl, (blk_cell BK219.out 1).trans rfl, (blk_cell BK219.out 2).trans rfl, (blk_cell BK219.out 3).trans rfl, (blk_cell BK219.out 4).trans rfl, (blk_cell BK219.out 5).trans rfl, (blk_cell BK219.out 6).trans rfl, (blk_cell BK219.out 7).trans rfl, (blk_cell BK219.out 8).trans rfl, (blk_cell BK220.out 0).trans rfl, (blk_cell BK220.out 1).trans rfl, (blk_cell BK220.out 2).trans rfl, (blk_cell BK220.out 3).trans rfl, (blk_cell BK220.out 4).trans rfl, (blk_cell BK220.out 5).trans rfl, (blk_cell BK221.out 0).trans rfl, (blk_cell BK221.out 1).trans rfl⟩ (fun hHeld => ?_)
                  clear hK K
                  refine norm_ (a' := ?_) ?_ ?_
                  rotate_left
                  ·
                   show Act.put _ (some 50) _ = _
                   simp only [Act.put, List.setIfInBounds_toArray, List.set_cons_zero, List.set_cons_succ, i64_w, i32_w]
                   rfl
                  exact norm_ (by first | (simp only [putAll, Act.put, List.setIfInBounds_toArray, List.set_cons_zero, List.set_cons_succ]; done) | (simp only [putAll, Act.put, List.setIfInBounds_toArray, List.set_cons_zero, List.set_cons_succ]; rfl)) (hJ1_3_4 (v230, .slice Ao85 y232.length co85, v236) _ ⟨hHeld, (Kd.rk HO227), (by (with_reducible repeat (first | apply Kd.R_alloc | apply Kd.R_drewN | apply Kd.R_drew)); exact Kd.R_mono HO234.out (fun _ hk => ⟨hk.2, hk.1⟩)), (Kd.rk HO237), (bk BK219), (bk BK220), (bk BK221), (bk BK228), (gw_ HB)⟩)
                 ·
                  skip
                  refine box_step ?hg (N := 14) ?hd (cs := #[.int .i64 0, .slice none 0 0]) (t := 32) ?hr ?_; (case hd => rfl); (case hg => rfl); (case hr => first | (go_simp; done) | (go_simp; rfl))
                  intro gb242 hg w84 hbox hb
                  have n0_ := Aside0.mk (Kd.R_below (Kd.rk HO227) hb)
                  have n1_ := Aside0.mk (Kd.R_below (Kd.rk HO231) hb)
                  have n2_ := Aside0.mk (Kd.R_below (Kd.rk HO234) hb)
                  have n3_ := Aside0.mk (blk_below (g := gb219) (bk BK219) hb)
                  have n4_ := Aside0.mk (blk_below (g := gb220) (bk BK220) hb)
                  have n5_ := Aside0.mk (blk_below (g := gb221) (bk BK221) hb)
                  have n6_ := Aside0.mk (blk_below (g := gb228) (bk BK228) hb)
                  have n7_ := Aside0.mk (below_step (gw_ HB) hb)
                  have n8_ := Aside0.mk (hbox)
                  have n9_ := Aside0.mk ((by rw [hg]; exact (below_size (gw_ HB)) : w.heap.size ≤ gb242))
                  have n10_ := Aside0.mk ((by rw [hg]; exact (below_size (gw_ HB)) : w.heap.size ≤ gb242))
                  have n11_ := Aside0.mk ((by rw [hg]; exact Nat.ne_of_lt (blk_lt (g := gb219) (bk BK219)) : gb219 ≠ gb242))
                  have n12_ := Aside0.mk ((by rw [hg]; exact Nat.ne_of_gt (blk_lt (g := gb219) (bk BK219)) : gb242 ≠ gb219))
                  have n13_ := Aside0.mk ((by rw [hg]; exact Nat.ne_of_lt (blk_lt (g := gb220) (bk BK220)) : gb220 ≠ gb242))
                  have n14_ := Aside0.mk ((by rw [hg]; exact Nat.ne_of_gt (blk_lt (g := gb220) (bk BK220)) : gb242 ≠ gb220))
                  have n15_ := Aside0.mk ((by rw [hg]; exact Nat.ne_of_lt (blk_lt (g := gb221) (bk BK221)) : gb221 ≠ gb242))
                  have n16_ := Aside0.mk ((by rw [hg]; exact Nat.ne_of_gt (blk_lt (g := gb221) (bk BK221)) : gb242 ≠ gb221))
                  have n17_ := Aside0.mk ((by rw [hg]; exact Nat.ne_of_lt (blk_lt (g := gb228) (bk BK228)) : gb228 ≠ gb242))
                  have n18_ := Aside0.mk ((by rw [hg]; exact Nat.ne_of_gt (blk_lt (g := gb228) (bk BK228)) : gb242 ≠ gb228))
                  clear HO227
                  clear HO231
                  clear HO234
                  clear BK219
                  clear BK220
                  clear BK221
                  clear BK228
                  clear HB
                  have HO227 := n0_
                  have HO231 := n1_
                  have HO234 := n2_
                  have BK219 := n3_
                  have BK220 := n4_
                  have BK221 := n5_
                  have BK228 := n6_
                  have HB := n7_
                  have BK242 := n8_
                  have GW242 := n9_
                  have GE242 := n10_
                  have NB219_242 := n11_
                  have NB242_219 := n12_
                  have NB220_242 := n13_
                  have NB242_220 := n14_
                  have NB221_242 := n15_
                  have NB242_221 := n16_
                  have NB228_242 := n17_
                  have NB242_228 := n18_
                  clear n0_ n1_ n2_ n3_ n4_ n5_ n6_ n7_ n8_ n9_ n10_ n11_ n12_ n13_ n14_ n15_ n16_ n17_ n18_
                  clear hb hbox hg
                  refine hK.out _ _ ⟨(blk_cell BK219.out 0).trans rfl, (blk_cell BK219.out 1).trans rfl, (blk_cell BK219.out 2).trans rfl, (blk_cell BK219.out 3).trans rfl, (blk_cell BK219.out 4).trans rfl, (blk_cell BK219.out 5).trans rfl, (blk_cell BK219.out 6).trans rfl, (blk_cell BK219.out 7).trans rfl, (blk_cell BK219.out 8).trans rfl, (blk_cell BK220.out 0).trans rfl, (blk_cell BK220.out 1).trans rfl, (blk_cell BK220.out 2).trans rfl, (blk_cell BK220.out 3).trans rfl, (blk_cell BK220.out 4).trans rfl, (blk_cell BK220.out 5).trans rfl, (blk_cell BK221.out 0).trans rfl, (blk_cell BK221.out 1).trans rfl⟩ (fun hHeld => ?_)
                  clear hK K
                  refine norm_ (a' := ?_) ?_ ?_
                  rotate_left
                  ·
                   show Act.put _ (some 14) _ = _
                   simp only [Act.put, List.setIfInBounds_toArray, List.set_cons_zero, List.set_cons_succ, i64_w, i32_w]
                   rfl
                  exact norm_ (by first | (simp only [putAll, Act.put, List.setIfInBounds_toArray, List.set_cons_zero, List.set_cons_succ]; done) | (simp only [putAll, Act.put, List.setIfInBounds_toArray, List.set_cons_zero, List.set_cons_succ]; rfl)) (hJ1_3_9 (v230, _, gb242) _ ⟨hHeld, (Kd.rk HO227), (Kd.rk HO231), (Kd.rk HO234), (bk BK219), (bk BK220), (bk BK221), (bk BK228), (bk BK242), GW242.out, GE242.out, NB219_242.out, NB242_219.out, NB220_242.out, NB242_220.out, NB221_242.out, NB242_221.out, NB228_242.out, NB242_228.out, (gw_ HB)⟩)
               ·
                skip
                rintro ⟨v230, v233, gb242⟩ w84 ⟨hS_, h0_, h1_, h2_, h3_, h4_, h5_, h6_, h7_, h8_, h9_, h10_, h11_, h12_, h13_, h14_, h15_, h16_, h17_, h18_⟩
                have n0_ : Aside0 (Kd.R (Kd.int .i64) 3 w84 w.heap.size (fun _ => True) (.slice Ao77 t225.length co77) t225) := ⟨h0_⟩
                have n1_ : Aside0 (Kd.R k29 29 w84 w.heap.size (fun k_ => some k_ ≠ (v233 : Value).ownBlock ∧ k_ ≠ gb219) v230 y229) := ⟨h1_⟩
                have n2_ : Aside0 (Kd.R k29 29 w84 w.heap.size (fun k_ => some k_ ≠ (v230 : Value).ownBlock ∧ k_ ≠ gb219) v233 y232) := ⟨h2_⟩
                have n3_ : Aside0 (w84.heap[gb219]? = some (.cells #[.int .i64 a1_0, .int .i64 a1_1, .int .i64 a1_2, .int .i64 a1_3, .int .i64 a1_4, .int .i64 a1_5, .int .i64 a1_6, .string a1_7, .int .i64 a1_8] 29 (0, 0))) := ⟨h3_⟩
                have n4_ : Aside0 (w84.heap[gb220]? = some (.cells #[.int .i64 a2_0, .int .i64 a2_1, .int .i64 a2_2, .int .i64 a2_3, .int .i64 a2_4, .string a2_5] 24 (0, 0))) := ⟨h4_⟩
                have n5_ : Aside0 (w84.heap[gb221]? = some (.cells #[.int .i64 a3_0, .int .i64 a3_1] 26 (0, 0))) := ⟨h5_⟩
                have n6_ : Aside0 (w84.heap[gb228]? = some (.cells #[.int .i64 t224, .slice Ao77 t225.length co77] 32 (0, 0))) := ⟨h6_⟩
                have n7_ : Aside0 (w84.heap[gb242]? = some (.cells #[.int .i64 0, .slice none 0 0] 32 (0, 0))) := ⟨h7_⟩
                have n8_ : Aside0 (w.heap.size ≤ gb242) := ⟨h8_⟩
                have n9_ : Aside0 (w.heap.size ≤ gb242) := ⟨h9_⟩
                have n10_ : Aside0 (gb219 ≠ gb242) := ⟨h10_⟩
                have n11_ : Aside0 (gb242 ≠ gb219) := ⟨h11_⟩
                have n12_ : Aside0 (gb220 ≠ gb242) := ⟨h12_⟩
                have n13_ : Aside0 (gb242 ≠ gb220) := ⟨h13_⟩
                have n14_ : Aside0 (gb221 ≠ gb242) := ⟨h14_⟩
                have n15_ : Aside0 (gb242 ≠ gb221) := ⟨h15_⟩
                have n16_ : Aside0 (gb228 ≠ gb242) := ⟨h16_⟩
                have n17_ : Aside0 (gb242 ≠ gb228) := ⟨h17_⟩
                have n18_ : Aside0 (Below w.heap.size w w84) := ⟨h18_⟩
                clear HO227
                clear BK219
                clear BK220
                clear BK221
                clear BK228
                clear HB
                clear h0_ h1_ h2_ h3_ h4_ h5_ h6_ h7_ h8_ h9_ h10_ h11_ h12_ h13_ h14_ h15_ h16_ h17_ h18_
                have HO227 := n0_
                have HO231 := n1_
                have HO234 := n2_
                have BK219 := n3_
                have BK220 := n4_
                have BK221 := n5_
                have BK228 := n6_
                have BK242 := n7_
                have GW242 := n8_
                have GE242 := n9_
                have NB219_242 := n10_
                have NB242_219 := n11_
                have NB220_242 := n12_
                have NB242_220 := n13_
                have NB221_242 := n14_
                have NB242_221 := n15_
                have NB228_242 := n16_
                have NB242_228 := n17_
                have HB := n18_
                clear n0_ n1_ n2_ n3_ n4_ n5_ n6_ n7_ n8_ n9_ n10_ n11_ n12_ n13_ n14_ n15_ n16_ n17_ n18_
                have hHeld : w84.cell? ⟨gb219, 0, none⟩ = some (.int .i64 a1_0) ∧ w84.cell? ⟨gb219, 1, none⟩ = some (.int .i64 a1_1) ∧ w84.cell? ⟨gb219, 2, none⟩ = some (.int .i64 a1_2) ∧ w84.cell? ⟨gb219, 3, none⟩ = some (.int .i64 a1_3) ∧ w84.cell? ⟨gb219, 4, none⟩ = some (.int .i64 a1_4) ∧ w84.cell? ⟨gb219, 5, none⟩ = some (.int .i64 a1_5) ∧ w84.cell? ⟨gb219, 6, none⟩ = some (.int .i64 a1_6) ∧ w84.cell? ⟨gb219, 7, none⟩ = some (.string a1_7) ∧ w84.cell? ⟨gb219, 8, none⟩ = some (.int .i64 a1_8) ∧ w84.cell? ⟨gb220, 0, none⟩ = some (.int .i64 a2_0) ∧ w84.cell? ⟨gb220, 1, none⟩ = some (.int .i64 a2_1) ∧ w84.cell? ⟨gb220, 2, none⟩ = some (.int .i64 a2_2) ∧ w84.cell? ⟨gb220, 3, none⟩ = some (.int .i64 a2_3) ∧ w84.cell? ⟨gb220, 4, none⟩ = some (.int .i64 a2_4) ∧ w84.cell? ⟨gb220, 5, none⟩ = some (.string a2_5) ∧ w84.cell? ⟨gb221, 0, none⟩ = some (.int .i64 a3_0) ∧ w84.cell? ⟨gb221, 1, none⟩ = some (.int .i64 a3_1) := hS_
                obtain ⟨Ao86, co86, eo86⟩ := Kd.R_slice HO234.out
                (first | subst eo86 | (injection eo86 with f1_ f2_ f3_; have f4_ := f1_.symm; have f5_ := f3_.symm; clear f1_ f2_ f3_; subst f4_; subst f5_))
                refine norm_ (a' := ?_) ?_ ?_
                rotate_left
                ·
                 simp only [putAll, Act.put, List.setIfInBounds_toArray, List.set_cons_zero, List.set_cons_succ]
                 rfl
                refine one_ (i := 4) (N := some 50) q8_14 rfl rfl (one_of HT_.out (by kernel_rfl)) (by decide) (fun K hK => ?_)
                refine Kd.R_append_rows_step k29 (w0 := w) w.heap.size (by rfl) (.tmp 47) (.tmp 49) 22 29 (.agg #[(.int .i64 0), (.int .i64 0), (.int .i64 0), (.int .i64 0), (.int .i64 0), (.int .i64 0), (.int .i64 0), (.string ⟨#[]⟩), (.int .i64 0)]) 80 rfl Try.underlying22 info29 rfl (by decide) (by omega) v230 y229 y232 _ _ _ (fun k_ => some k_ ≠ (.slice Ao86 y232.length co86 : Value).ownBlock ∧ k_ ≠ gb219) (fun _ => False) rfl rfl ?aO ?aR (fun _ _ h => h) (fun _ h => h.elim) ?aF ?aB ?aS ?aL ?_
                (case aR => repeat (first | exact (Kd.R_reads' HO234.out).2.2 | (with_reducible refine Kd.C_alloc ?_ _) | (with_reducible refine Kd.C_drewN ?_ _) | (with_reducible refine Kd.C_drew ?_)))
                (case aB => exact (gw_ HB))
                (case aF => exact (fun k_ hk => ⟨Kd.fresh' (Kd.R_lt (Kd.rk HO234)) k_ hk, Kd.freshB (g := gb219) (bk BK219) k_ hk⟩))
                (case aO => exact (Kd.rk HO231))
                (case aS => exact (below_size (gw_ HB)))
                (case aL => have := LMc23.out; omega)
                intro v236 w85 ho hb hg hat
                rw [← Ny235.out] at ho
                have n0_ := Aside0.mk (blk_grown (g := gb219) (bk BK219) hg (Kd.R_away HO231.out (fun _ hk => hk.2)))
                have n1_ := Aside0.mk (blk_grown (g := gb220) (bk BK220) hg (Kd.R_ne HO231.out BK220.out (by decide)))
                have n2_ := Aside0.mk (blk_grown (g := gb221) (bk BK221) hg (Kd.R_ne HO231.out BK221.out (by decide)))
                have n3_ := Aside0.mk (Kd.R_over' (Kd.rk HO227) (Kd.R_typed (Kd.rk HO231)) (by decide) hg)
                have n4_ := Aside0.mk (blk_grown (g := gb228) (bk BK228) hg (Kd.R_ne HO231.out BK228.out (by decide)))
                have n5_ := Aside0.mk (Kd.R_after (ok := (fun k_ => k_ ≠ gb219)) (by (with_reducible repeat (first | apply Kd.R_alloc | apply Kd.R_drewN | apply Kd.R_drew)); exact Kd.R_mono HO234.out (fun _ hk => ⟨hk.2, hk.1⟩)) hg hat)
                have n6_ := Aside0.mk (blk_grown (g := gb242) (bk BK242) hg (Kd.R_ne HO231.out BK242.out (by decide)))
                have n7_ := Aside0.mk (hb)
                have n8_ := Aside0.mk (ho)
                clear BK219
                clear BK220
                clear BK221
                clear HO227
                clear BK228
                clear HO234
                clear BK242
                clear HB
                clear HO231
                have BK219 := n0_
                have BK220 := n1_
                have BK221 := n2_
                have HO227 := n3_
                have BK228 := n4_
                have HO234 := n5_
                have BK242 := n6_
                have HB := n7_
                have HO237 := n8_
                clear n0_ n1_ n2_ n3_ n4_ n5_ n6_ n7_ n8_
                clear ho hb hg hat
                refine hK.out _ _ ⟨(blk_cell BK219.out 0).trans rfl, (blk_cell BK219.out 1).trans rfl, (blk_cell BK219.out 2).trans rfl, (blk_cell BK219.out 3).trans rfl, (blk_cell BK219.out 4).trans rfl, (blk_cell BK219.out 5).trans rfl, (blk_cell BK219.out 6).trans rfl, (blk_cell BK219.out 7).trans rfl, (blk_cell BK219.out 8).trans rfl, (blk_cell BK220.out 0).trans rfl, (blk_cell BK220.out 1).trans rfl, (blk_cell BK220.out 2).trans rfl, (blk_cell BK220.out 3).trans rfl, (blk_cell BK220.out 4).trans rfl, (blk_cell BK220.out 5).trans rfl, (blk_cell BK221.out 0).trans rfl, (blk_cell BK221.out 1).trans rfl⟩ (fun hHeld => ?_)
                clear hK K
                refine norm_ (a' := ?_) ?_ ?_
                rotate_left
                ·
                 show Act.put _ (some 50) _ = _
                 simp only [Act.put, List.setIfInBounds_toArray, List.set_cons_zero, List.set_cons_succ, i64_w, i32_w]
                 rfl
                exact norm_ (by first | (simp only [putAll, Act.put, List.setIfInBounds_toArray, List.set_cons_zero, List.set_cons_succ]; done) | (simp only [putAll, Act.put, List.setIfInBounds_toArray, List.set_cons_zero, List.set_cons_succ]; rfl)) (hJ1_3_4_9 (v230, .slice Ao86 y232.length co86, v236, gb242) _ ⟨hHeld, (Kd.rk HO227), (by (with_reducible repeat (first | apply Kd.R_alloc | apply Kd.R_drewN | apply Kd.R_drew)); exact Kd.R_mono HO234.out (fun _ hk => ⟨hk.2, hk.1⟩)), (Kd.rk HO237), (bk BK219), (bk BK220), (bk BK221), (bk BK228), (bk BK242), GW242.out, GE242.out, NB219_242.out, NB242_219.out, NB220_242.out, NB242_220.out, NB221_242.out, NB242_221.out, NB228_242.out, NB242_228.out, (gw_ HB)⟩)
              ·
               skip
               rintro ⟨v230, v233, v236⟩ w85 ⟨hS_, h0_, h1_, h2_, h3_, h4_, h5_, h6_, h7_⟩
               have n0_ : Aside0 (Kd.R (Kd.int .i64) 3 w85 w.heap.size (fun _ => True) (.slice Ao77 t225.length co77) t225) := ⟨h0_⟩
               have n1_ : Aside0 (Kd.R k29 29 w85 w.heap.size (fun k_ => some k_ ≠ (v236 : Value).ownBlock ∧ k_ ≠ gb219) v233 y232) := ⟨h1_⟩
               have n2_ : Aside0 (Kd.R k29 29 w85 w.heap.size (fun k_ => some k_ ≠ (v233 : Value).ownBlock ∧ k_ ≠ gb219) v236 y235) := ⟨h2_⟩
               have n3_ : Aside0 (w85.heap[gb219]? = some (.cells #[.int .i64 a1_0, .int .i64 a1_1, .int .i64 a1_2, .int .i64 a1_3, .int .i64 a1_4, .int .i64 a1_5, .int .i64 a1_6, .string a1_7, .int .i64 a1_8] 29 (0, 0))) := ⟨h3_⟩
               have n4_ : Aside0 (w85.heap[gb220]? = some (.cells #[.int .i64 a2_0, .int .i64 a2_1, .int .i64 a2_2, .int .i64 a2_3, .int .i64 a2_4, .string a2_5] 24 (0, 0))) := ⟨h4_⟩
               have n5_ : Aside0 (w85.heap[gb221]? = some (.cells #[.int .i64 a3_0, .int .i64 a3_1] 26 (0, 0))) := ⟨h5_⟩
               have n6_ : Aside0 (w85.heap[gb228]? = some (.cells #[.int .i64 t224, .slice Ao77 t225.length co77] 32 (0, 0))) := ⟨h6_⟩
               have n7_ : Aside0 (Below w.heap.size w w85) := ⟨h7_⟩
               clear HO227
               clear BK219
               clear BK220
               clear BK221
               clear BK228
               clear HB
               clear h0_ h1_ h2_ h3_ h4_ h5_ h6_ h7_
               have HO227 := n0_
               have HO234 := n1_
               have HO237 := n2_
               have BK219 := n3_
               have BK220 := n4_
               have BK221 := n5_
               have BK228 := n6_
               have HB := n7_
               clear n0_ n1_ n2_ n3_ n4_ n5_ n6_ n7_
               have hHeld : w85.cell? ⟨gb219, 0, none⟩ = some (.int .i64 a1_0) ∧ w85.cell? ⟨gb219, 1, none⟩ = some (.int .i64 a1_1) ∧ w85.cell? ⟨gb219, 2, none⟩ = some (.int .i64 a1_2) ∧ w85.cell? ⟨gb219, 3, none⟩ = some (.int .i64 a1_3) ∧ w85.cell? ⟨gb219, 4, none⟩ = some (.int .i64 a1_4) ∧ w85.cell? ⟨gb219, 5, none⟩ = some (.int .i64 a1_5) ∧ w85.cell? ⟨gb219, 6, none⟩ = some (.int .i64 a1_6) ∧ w85.cell? ⟨gb219, 7, none⟩ = some (.string a1_7) ∧ w85.cell? ⟨gb219, 8, none⟩ = some (.int .i64 a1_8) ∧ w85.cell? ⟨gb220, 0, none⟩ = some (.int .i64 a2_0) ∧ w85.cell? ⟨gb220, 1, none⟩ = some (.int .i64 a2_1) ∧ w85.cell? ⟨gb220, 2, none⟩ = some (.int .i64 a2_2) ∧ w85.cell? ⟨gb220, 3, none⟩ = some (.int .i64 a2_3) ∧ w85.cell? ⟨gb220, 4, none⟩ = some (.int .i64 a2_4) ∧ w85.cell? ⟨gb220, 5, none⟩ = some (.string a2_5) ∧ w85.cell? ⟨gb221, 0, none⟩ = some (.int .i64 a3_0) ∧ w85.cell? ⟨gb221, 1, none⟩ = some (.int .i64 a3_1) := hS_
               obtain ⟨Ao86, co86, eo86⟩ := Kd.R_slice HO237.out
               (first | subst eo86 | (injection eo86 with f1_ f2_ f3_; have f4_ := f1_.symm; have f5_ := f3_.symm; clear f1_ f2_ f3_; subst f4_; subst f5_))
               refine norm_ (a' := ?_) ?_ ?_
               rotate_left
               ·
                simp only [putAll, Act.put, List.setIfInBounds_toArray, List.set_cons_zero, List.set_cons_succ]
                rfl
               refine two_ (i := 8) (j := 9) (Ni := some 54) (Nj := some 14) q8_15 q8_14 rfl rfl rfl rfl (two_of HT_.out (by kernel_rfl)) (by decide) (by decide) (fun K hK => ?_) (fun K hK => ?_)
               ·
                skip
                refine goes_ Try.func10 (by kernel_rfl) rfl #[.slice Ao86 y235.length co86, .agg #[.int .i64 a2_0, .int .i64 a2_1, .int .i64 a2_2, .int .i64 a2_3, .int .i64 a2_4, .string a2_5], .agg #[.int .i64 a3_0, .int .i64 a3_1], .int .i64 a4] (by rfl) rfl rfl (by (try simp only [List.map_toArray, List.map_cons, List.map_nil]); first | done | rfl | (simp only [List.length_drop, List.length_take]; rfl)) ?_
                with_reducible refine (index_Of.calls _ _ y235 a2_0 a2_1 a2_2 a2_3 a2_4 a2_5 a3_0 a3_1 a4 t238 t239 _ ?side1 ?side2 A24.out).mono ?_
                (case side1 => repeat (first | exact (Kd.R_reads' HO237.out).2.2 | (with_reducible refine Kd.C_alloc ?_ _) | (with_reducible refine Kd.C_drewN ?_ _) | (with_reducible refine Kd.C_drew ?_)))
                (case side2 => exact (Kd.R_reads' HO237.out).2.1)
                rintro e w87 ⟨v240, rfl, ho0, hb⟩
                refine ⟨_, rfl, ?_⟩
                have n0_ := Aside0.mk (Kd.R_elder' (Kd.rk HO227) (Kd.R_base ho0) hb)
                have n1_ := Aside0.mk (Kd.R_below (Kd.rk HO234) hb)
                have n2_ := Aside0.mk (Kd.R_below (Kd.rk HO237) hb)
                have n3_ := Aside0.mk (Kd.R_lower (Kd.R_new' ho0 (Kd.R_lt (Kd.rk HO227))) (below_size (gw_ HB)))
                have n4_ := Aside0.mk (blk_below (g := gb219) (bk BK219) hb)
                have n5_ := Aside0.mk (blk_below (g := gb220) (bk BK220) hb)
                have n6_ := Aside0.mk (blk_below (g := gb221) (bk BK221) hb)
                have n7_ := Aside0.mk (blk_below (g := gb228) (bk BK228) hb)
                have n8_ := Aside0.mk (below_step (gw_ HB) hb)
                clear HO227
                clear HO234
                clear HO237
                clear BK219
                clear BK220
                clear BK221
                clear BK228
                clear HB
                have HO227 := n0_
                have HO234 := n1_
                have HO237 := n2_
                have HO241 := n3_
                have BK219 := n4_
                have BK220 := n5_
                have BK221 := n6_
                have BK228 := n7_
                have HB := n8_
                clear n0_ n1_ n2_ n3_ n4_ n5_ n6_ n7_ n8_
                (try clear hb)
                (try clear hb2)
                (try clear hk)
                (try clear hi)
                (try clear ho0)
                refine hK.out _ _ ⟨(blk_cell BK219.out 0).trans rfl, (blk_cell BK219.out 1).trans rfl, (blk_cell BK219.out 2).trans rfl, (blk_cell BK219.out 3).trans rfl, (blk_cell BK219.out 4).trans rfl, (blk_cell BK219.out 5).trans rfl, (blk_cell BK219.out 6).trans rfl, (blk_cell BK219.out 7).trans rfl, (blk_cell BK219.out 8).trans rfl, (blk_cell BK220.out 0).trans rfl, (blk_cell BK220.out 1).trans rfl, (blk_cell BK220.out 2).trans rfl, (blk_cell BK220.out 3).trans rfl, (blk_cell BK220.out 4).trans rfl, (blk_cell BK220.out 5).trans rfl, (blk_cell BK221.out 0).trans rfl, (blk_cell BK221.out 1).trans rfl⟩ (fun hHeld => ?_)
                clear hK K
                refine norm_ (a' := ?_) ?_ ?_
                rotate_left
                ·
                 show Act.put _ (some 54) _ = _
                 simp only [Act.put, List.setIfInBounds_toArray, List.set_cons_zero, List.set_cons_succ, i64_w, i32_w]
                 rfl
                exact norm_ (by first | (simp only [putAll, Act.put, List.setIfInBounds_toArray, List.set_cons_zero, List.set_cons_succ]; done) | (simp only [putAll, Act.put, List.setIfInBounds_toArray, List.set_cons_zero, List.set_cons_succ]; rfl)) (hJ1_3_4_8 (v230, v233, .slice Ao86 y235.length co86, v240) _ ⟨hHeld, (by (with_reducible repeat (first | apply Kd.R_alloc | apply Kd.R_drewN | apply Kd.R_drew)); exact Kd.R_mono HO227.out (fun _ hk => hk.2)), (Kd.rk HO234), (Kd.rk HO237), (by (with_reducible repeat (first | apply Kd.R_alloc | apply Kd.R_drewN | apply Kd.R_drew)); exact Kd.R_mono HO241.out (fun _ hk => hk.2)), (bk BK219), (bk BK220), (bk BK221), (bk BK228), (gw_ HB)⟩)
               ·
                skip
                refine box_step ?hg (N := 14) ?hd (cs := #[.int .i64 0, .slice none 0 0]) (t := 32) ?hr ?_; (case hd => rfl); (case hg => rfl); (case hr => first | (go_simp; done) | (go_simp; rfl))
                intro gb242 hg w86 hbox hb
                have n0_ := Aside0.mk (Kd.R_below (Kd.rk HO227) hb)
                have n1_ := Aside0.mk (Kd.R_below (Kd.rk HO234) hb)
                have n2_ := Aside0.mk (Kd.R_below (Kd.rk HO237) hb)
                have n3_ := Aside0.mk (blk_below (g := gb219) (bk BK219) hb)
                have n4_ := Aside0.mk (blk_below (g := gb220) (bk BK220) hb)
                have n5_ := Aside0.mk (blk_below (g := gb221) (bk BK221) hb)
                have n6_ := Aside0.mk (blk_below (g := gb228) (bk BK228) hb)
                have n7_ := Aside0.mk (below_step (gw_ HB) hb)
                have n8_ := Aside0.mk (hbox)
                have n9_ := Aside0.mk ((by rw [hg]; exact (below_size (gw_ HB)) : w.heap.size ≤ gb242))
                have n10_ := Aside0.mk ((by rw [hg]; exact (below_size (gw_ HB)) : w.heap.size ≤ gb242))
                have n11_ := Aside0.mk ((by rw [hg]; exact Nat.ne_of_lt (blk_lt (g := gb219) (bk BK219)) : gb219 ≠ gb242))
                have n12_ := Aside0.mk ((by rw [hg]; exact Nat.ne_of_gt (blk_lt (g := gb219) (bk BK219)) : gb242 ≠ gb219))
                have n13_ := Aside0.mk ((by rw [hg]; exact Nat.ne_of_lt (blk_lt (g := gb220) (bk BK220)) : gb220 ≠ gb242))
                have n14_ := Aside0.mk ((by rw [hg]; exact Nat.ne_of_gt (blk_lt (g := gb220) (bk BK220)) : gb242 ≠ gb220))
                have n15_ := Aside0.mk ((by rw [hg]; exact Nat.ne_of_lt (blk_lt (g := gb221) (bk BK221)) : gb221 ≠ gb242))
                have n16_ := Aside0.mk ((by rw [hg]; exact Nat.ne_of_gt (blk_lt (g := gb221) (bk BK221)) : gb242 ≠ gb221))
                have n17_ := Aside0.mk ((by rw [hg]; exact Nat.ne_of_lt (blk_lt (g := gb228) (bk BK228)) : gb228 ≠ gb242))
                have n18_ := Aside0.mk ((by rw [hg]; exact Nat.ne_of_gt (blk_lt (g := gb228) (bk BK228)) : gb242 ≠ gb228))
                clear HO227
                clear HO234
                clear HO237
                clear BK219
                clear BK220
                clear BK221
                clear BK228
                clear HB
                have HO227 := n0_
                have HO234 := n1_
                have HO237 := n2_
                have BK219 := n3_
                have BK220 := n4_
                have BK221 := n5_
                have BK228 := n6_
                have HB := n7_
                have BK242 := n8_
                have GW242 := n9_
                have GE242 := n10_
                have NB219_242 := n11_
                have NB242_219 := n12_
                have NB220_242 := n13_
                have NB242_220 := n14_
                have NB221_242 := n15_
                have NB242_221 := n16_
                have NB228_242 := n17_
                have NB242_228 := n18_
                clear n0_ n1_ n2_ n3_ n4_ n5_ n6_ n7_ n8_ n9_ n10_ n11_ n12_ n13_ n14_ n15_ n16_ n17_ n18_
                clear hb hbox hg
                refine hK.out _ _ ⟨(blk_cell BK219.out 0).trans rfl, (blk_cell BK219.out 1).trans rfl, (blk_cell BK219.out 2).trans rfl, (blk_cell BK219.out 3).trans rfl, (blk_cell BK219.out 4).trans rfl, (blk_cell BK219.out 5).trans rfl, (blk_cell BK219.out 6).trans rfl, (blk_cell BK219.out 7).trans rfl, (blk_cell BK219.out 8).trans rfl, (blk_cell BK220.out 0).trans rfl, (blk_cell BK220.out 1).trans rfl, (blk_cell BK220.out 2).trans rfl, (blk_cell BK220.out 3).trans rfl, (blk_cell BK220.out 4).trans rfl, (blk_cell BK220.out 5).trans rfl, (blk_cell BK221.out 0).trans rfl, (blk_cell BK221.out 1).trans rfl⟩ (fun hHeld => ?_)
                clear hK K
                refine norm_ (a' := ?_) ?_ ?_
                rotate_left
                ·
                 show Act.put _ (some 14) _ = _
                 simp only [Act.put, List.setIfInBounds_toArray, List.set_cons_zero, List.set_cons_succ, i64_w, i32_w]
                 rfl
                exact norm_ (by first | (simp only [putAll, Act.put, List.setIfInBounds_toArray, List.set_cons_zero, List.set_cons_succ]; done) | (simp only [putAll, Act.put, List.setIfInBounds_toArray, List.set_cons_zero, List.set_cons_succ]; rfl)) (hJ1_3_4_9 (v230, v233, _, gb242) _ ⟨hHeld, (Kd.rk HO227), (Kd.rk HO234), (Kd.rk HO237), (bk BK219), (bk BK220), (bk BK221), (bk BK228), (bk BK242), GW242.out, GE242.out, NB219_242.out, NB242_219.out, NB220_242.out, NB242_220.out, NB221_242.out, NB242_221.out, NB228_242.out, NB242_228.out, (gw_ HB)⟩)
             ·
              skip
              rintro ⟨v230, v233, v236, gb242⟩ w86 ⟨hS_, h0_, h1_, h2_, h3_, h4_, h5_, h6_, h7_, h8_, h9_, h10_, h11_, h12_, h13_, h14_, h15_, h16_, h17_, h18_⟩
              have n0_ : Aside0 (Kd.R (Kd.int .i64) 3 w86 w.heap.size (fun _ => True) (.slice Ao77 t225.length co77) t225) := ⟨h0_⟩
              have n1_ : Aside0 (Kd.R k29 29 w86 w.heap.size (fun k_ => some k_ ≠ (v236 : Value).ownBlock ∧ k_ ≠ gb219) v233 y232) := ⟨h1_⟩
              have n2_ : Aside0 (Kd.R k29 29 w86 w.heap.size (fun k_ => some k_ ≠ (v233 : Value).ownBlock ∧ k_ ≠ gb219) v236 y235) := ⟨h2_⟩
              have n3_ : Aside0 (w86.heap[gb219]? = some (.cells #[.int .i64 a1_0, .int .i64 a1_1, .int .i64 a1_2, .int .i64 a1_3, .int .i64 a1_4, .int .i64 a1_5, .int .i64 a1_6, .string a1_7, .int .i64 a1_8] 29 (0, 0))) := ⟨h3_⟩
              have n4_ : Aside0 (w86.heap[gb220]? = some (.cells #[.int .i64 a2_0, .int .i64 a2_1, .int .i64 a2_2, .int .i64 a2_3, .int .i64 a2_4, .string a2_5] 24 (0, 0))) := ⟨h4_⟩
              have n5_ : Aside0 (w86.heap[gb221]? = some (.cells #[.int .i64 a3_0, .int .i64 a3_1] 26 (0, 0))) := ⟨h5_⟩
              have n6_ : Aside0 (w86.heap[gb228]? = some (.cells #[.int .i64 t224, .slice Ao77 t225.length co77] 32 (0, 0))) := ⟨h6_⟩
              have n7_ : Aside0 (w86.heap[gb242]? = some (.cells #[.int .i64 0, .slice none 0 0] 32 (0, 0))) := ⟨h7_⟩
              have n8_ : Aside0 (w.heap.size ≤ gb242) := ⟨h8_⟩
              have n9_ : Aside0 (w.heap.size ≤ gb242) := ⟨h9_⟩
              have n10_ : Aside0 (gb219 ≠ gb242) := ⟨h10_⟩
              have n11_ : Aside0 (gb242 ≠ gb219) := ⟨h11_⟩
              have n12_ : Aside0 (gb220 ≠ gb242) := ⟨h12_⟩
              have n13_ : Aside0 (gb242 ≠ gb220) := ⟨h13_⟩
              have n14_ : Aside0 (gb221 ≠ gb242) := ⟨h14_⟩
              have n15_ : Aside0 (gb242 ≠ gb221) := ⟨h15_⟩
              have n16_ : Aside0 (gb228 ≠ gb242) := ⟨h16_⟩
              have n17_ : Aside0 (gb242 ≠ gb228) := ⟨h17_⟩
              have n18_ : Aside0 (Below w.heap.size w w86) := ⟨h18_⟩
              clear HO227
              clear BK219
              clear BK220
              clear BK221
              clear BK228
              clear HB
              clear h0_ h1_ h2_ h3_ h4_ h5_ h6_ h7_ h8_ h9_ h10_ h11_ h12_ h13_ h14_ h15_ h16_ h17_ h18_
              have HO227 := n0_
              have HO234 := n1_
              have HO237 := n2_
              have BK219 := n3_
              have BK220 := n4_
              have BK221 := n5_
              have BK228 := n6_
              have BK242 := n7_
              have GW242 := n8_
              have GE242 := n9_
              have NB219_242 := n10_
              have NB242_219 := n11_
              have NB220_242 := n12_
              have NB242_220 := n13_
              have NB221_242 := n14_
              have NB242_221 := n15_
              have NB228_242 := n16_
              have NB242_228 := n17_
              have HB := n18_
              clear n0_ n1_ n2_ n3_ n4_ n5_ n6_ n7_ n8_ n9_ n10_ n11_ n12_ n13_ n14_ n15_ n16_ n17_ n18_
              have hHeld : w86.cell? ⟨gb219, 0, none⟩ = some (.int .i64 a1_0) ∧ w86.cell? ⟨gb219, 1, none⟩ = some (.int .i64 a1_1) ∧ w86.cell? ⟨gb219, 2, none⟩ = some (.int .i64 a1_2) ∧ w86.cell? ⟨gb219, 3, none⟩ = some (.int .i64 a1_3) ∧ w86.cell? ⟨gb219, 4, none⟩ = some (.int .i64 a1_4) ∧ w86.cell? ⟨gb219, 5, none⟩ = some (.int .i64 a1_5) ∧ w86.cell? ⟨gb219, 6, none⟩ = some (.int .i64 a1_6) ∧ w86.cell? ⟨gb219, 7, none⟩ = some (.string a1_7) ∧ w86.cell? ⟨gb219, 8, none⟩ = some (.int .i64 a1_8) ∧ w86.cell? ⟨gb220, 0, none⟩ = some (.int .i64 a2_0) ∧ w86.cell? ⟨gb220, 1, none⟩ = some (.int .i64 a2_1) ∧ w86.cell? ⟨gb220, 2, none⟩ = some (.int .i64 a2_2) ∧ w86.cell? ⟨gb220, 3, none⟩ = some (.int .i64 a2_3) ∧ w86.cell? ⟨gb220, 4, none⟩ = some (.int .i64 a2_4) ∧ w86.cell? ⟨gb220, 5, none⟩ = some (.string a2_5) ∧ w86.cell? ⟨gb221, 0, none⟩ = some (.int .i64 a3_0) ∧ w86.cell? ⟨gb221, 1, none⟩ = some (.int .i64 a3_1) := hS_
              obtain ⟨Ao87, co87, eo87⟩ := Kd.R_slice HO237.out
              (first | subst eo87 | (injection eo87 with f1_ f2_ f3_; have f4_ := f1_.symm; have f5_ := f3_.symm; clear f1_ f2_ f3_; subst f4_; subst f5_))
              refine norm_ (a' := ?_) ?_ ?_
              rotate_left
              ·
               simp only [putAll, Act.put, List.setIfInBounds_toArray, List.set_cons_zero, List.set_cons_succ]
               rfl
              refine one_ (i := 8) (N := some 54) q8_16 rfl rfl (one_of HT_.out (by kernel_rfl)) (by decide) (fun K hK => ?_)
              refine goes_ Try.func10 (by kernel_rfl) rfl #[.slice Ao87 y235.length co87, .agg #[.int .i64 a2_0, .int .i64 a2_1, .int .i64 a2_2, .int .i64 a2_3, .int .i64 a2_4, .string a2_5], .agg #[.int .i64 a3_0, .int .i64 a3_1], .int .i64 a4] (by rfl) rfl rfl (by (try simp only [List.map_toArray, List.map_cons, List.map_nil]); first | done | rfl | (simp only [List.length_drop, List.length_take]; rfl)) ?_
              with_reducible refine (index_Of.calls _ _ y235 a2_0 a2_1 a2_2 a2_3 a2_4 a2_5 a3_0 a3_1 a4 t238 t239 _ ?side1 ?side2 A24.out).mono ?_
              (case side1 => repeat (first | exact (Kd.R_reads' HO237.out).2.2 | (with_reducible refine Kd.C_alloc ?_ _) | (with_reducible refine Kd.C_drewN ?_ _) | (with_reducible refine Kd.C_drew ?_)))
              (case side2 => exact (Kd.R_reads' HO237.out).2.1)
              rintro e w88 ⟨v240, rfl, ho0, hb⟩
              refine ⟨_, rfl, ?_⟩
              have n0_ := Aside0.mk (Kd.R_elder' (Kd.rk HO227) (Kd.R_base ho0) hb)
              have n1_ := Aside0.mk (Kd.R_below (Kd.rk HO234) hb)
              have n2_ := Aside0.mk (Kd.R_below (Kd.rk HO237) hb)
              have n3_ := Aside0.mk (Kd.R_lower (Kd.R_new' ho0 (Kd.R_lt (Kd.rk HO227))) (below_size (gw_ HB)))
              have n4_ := Aside0.mk (blk_below (g := gb219) (bk BK219) hb)
              have n5_ := Aside0.mk (blk_below (g := gb220) (bk BK220) hb)
              have n6_ := Aside0.mk (blk_below (g := gb221) (bk BK221) hb)
              have n7_ := Aside0.mk (blk_below (g := gb228) (bk BK228) hb)
              have n8_ := Aside0.mk (blk_below (g := gb242) (bk BK242) hb)
              have n9_ := Aside0.mk (below_step (gw_ HB) hb)
              clear HO227
              clear HO234
              clear HO237
              clear BK219
              clear BK220
              clear BK221
              clear BK228
              clear BK242
              clear HB
              have HO227 := n0_
              have HO234 := n1_
              have HO237 := n2_
              have HO241 := n3_
              have BK219 := n4_
              have BK220 := n5_
              have BK221 := n6_
              have BK228 := n7_
              have BK242 := n8_
              have HB := n9_
              clear n0_ n1_ n2_ n3_ n4_ n5_ n6_ n7_ n8_ n9_
              (try clear hb)
              (try clear hb2)
              (try clear hk)
              (try clear hi)
              (try clear ho0)
              refine hK.out _ _ ⟨(blk_cell BK219.out 0).trans rfl, (blk_cell BK219.out 1).trans rfl, (blk_cell BK219.out 2).trans rfl, (blk_cell BK219.out 3).trans rfl, (blk_cell BK219.out 4).trans rfl, (blk_cell BK219.out 5).trans rfl, (blk_cell BK219.out 6).trans rfl, (blk_cell BK219.out 7).trans rfl, (blk_cell BK219.out 8).trans rfl, (blk_cell BK220.out 0).trans rfl, (blk_cell BK220.out 1).trans rfl, (blk_cell BK220.out 2).trans rfl, (blk_cell BK220.out 3).trans rfl, (blk_cell BK220.out 4).trans rfl, (blk_cell BK220.out 5).trans rfl, (blk_cell BK221.out 0).trans rfl, (blk_cell BK221.out 1).trans rfl⟩ (fun hHeld => ?_)
              clear hK K
              refine norm_ (a' := ?_) ?_ ?_
              rotate_left
              ·
               show Act.put _ (some 54) _ = _
               simp only [Act.put, List.setIfInBounds_toArray, List.set_cons_zero, List.set_cons_succ, i64_w, i32_w]
               rfl
              exact norm_ (by first | (simp only [putAll, Act.put, List.setIfInBounds_toArray, List.set_cons_zero, List.set_cons_succ]; done) | (simp only [putAll, Act.put, List.setIfInBounds_toArray, List.set_cons_zero, List.set_cons_succ]; rfl)) (hJ1_3_4_8_9 (v230, v233, .slice Ao87 y235.length co87, v240, gb242) _ ⟨hHeld, (by (with_reducible repeat (first | apply Kd.R_alloc | apply Kd.R_drewN | apply Kd.R_drew)); exact Kd.R_mono HO227.out (fun _ hk => hk.2)), (Kd.rk HO234), (Kd.rk HO237), (by (with_reducible repeat (first | apply Kd.R_alloc | apply Kd.R_drewN | apply Kd.R_drew)); exact Kd.R_mono HO241.out (fun _ hk => hk.2)), (bk BK219), (bk BK220), (bk BK221), (bk BK228), (bk BK242), GW242.out, GE242.out, NB219_242.out, NB242_219.out, NB220_242.out, NB242_220.out, NB221_242.out, NB242_221.out, NB228_242.out, NB242_228.out, (gw_ HB)⟩)
            ·
             skip
             rintro ⟨v230, v233, v236, v240⟩ w87 ⟨hS_, h0_, h1_, h2_, h3_, h4_, h5_, h6_, h7_, h8_⟩
             have n0_ : Aside0 (Kd.R (Kd.int .i64) 3 w87 w.heap.size (fun k_ => some k_ ≠ (v240 : Value).ownBlock) (.slice Ao77 t225.length co77) t225) := ⟨h0_⟩
             have n1_ : Aside0 (Kd.R k29 29 w87 w.heap.size (fun k_ => some k_ ≠ (v236 : Value).ownBlock ∧ k_ ≠ gb219) v233 y232) := ⟨h1_⟩
             have n2_ : Aside0 (Kd.R k29 29 w87 w.heap.size (fun k_ => some k_ ≠ (v233 : Value).ownBlock ∧ k_ ≠ gb219) v236 y235) := ⟨h2_⟩
             have n3_ : Aside0 (Kd.R (Kd.int .i64) 3 w87 w.heap.size (fun k_ => some k_ ≠ (.slice Ao77 t225.length co77 : Value).ownBlock) v240 t239) := ⟨h3_⟩
             have n4_ : Aside0 (w87.heap[gb219]? = some (.cells #[.int .i64 a1_0, .int .i64 a1_1, .int .i64 a1_2, .int .i64 a1_3, .int .i64 a1_4, .int .i64 a1_5, .int .i64 a1_6, .string a1_7, .int .i64 a1_8] 29 (0, 0))) := ⟨h4_⟩
             have n5_ : Aside0 (w87.heap[gb220]? = some (.cells #[.int .i64 a2_0, .int .i64 a2_1, .int .i64 a2_2, .int .i64 a2_3, .int .i64 a2_4, .string a2_5] 24 (0, 0))) := ⟨h5_⟩
             have n6_ : Aside0 (w87.heap[gb221]? = some (.cells #[.int .i64 a3_0, .int .i64 a3_1] 26 (0, 0))) := ⟨h6_⟩
             have n7_ : Aside0 (w87.heap[gb228]? = some (.cells #[.int .i64 t224, .slice Ao77 t225.length co77] 32 (0, 0))) := ⟨h7_⟩
             have n8_ : Aside0 (Below w.heap.size w w87) := ⟨h8_⟩
             clear HO227
             clear BK219
             clear BK220
             clear BK221
             clear BK228
             clear HB
             clear h0_ h1_ h2_ h3_ h4_ h5_ h6_ h7_ h8_
             have HO227 := n0_
             have HO234 := n1_
             have HO237 := n2_
             have HO241 := n3_
             have BK219 := n4_
             have BK220 := n5_
             have BK221 := n6_
             have BK228 := n7_
             have HB := n8_
             clear n0_ n1_ n2_ n3_ n4_ n5_ n6_ n7_ n8_
             have hHeld : w87.cell? ⟨gb219, 0, none⟩ = some (.int .i64 a1_0) ∧ w87.cell? ⟨gb219, 1, none⟩ = some (.int .i64 a1_1) ∧ w87.cell? ⟨gb219, 2, none⟩ = some (.int .i64 a1_2) ∧ w87.cell? ⟨gb219, 3, none⟩ = some (.int .i64 a1_3) ∧ w87.cell? ⟨gb219, 4, none⟩ = some (.int .i64 a1_4) ∧ w87.cell? ⟨gb219, 5, none⟩ = some (.int .i64 a1_5) ∧ w87.cell? ⟨gb219, 6, none⟩ = some (.int .i64 a1_6) ∧ w87.cell? ⟨gb219, 7, none⟩ = some (.string a1_7) ∧ w87.cell? ⟨gb219, 8, none⟩ = some (.int .i64 a1_8) ∧ w87.cell? ⟨gb220, 0, none⟩ = some (.int .i64 a2_0) ∧ w87.cell? ⟨gb220, 1, none⟩ = some (.int .i64 a2_1) ∧ w87.cell? ⟨gb220, 2, none⟩ = some (.int .i64 a2_2) ∧ w87.cell? ⟨gb220, 3, none⟩ = some (.int .i64 a2_3) ∧ w87.cell? ⟨gb220, 4, none⟩ = some (.int .i64 a2_4) ∧ w87.cell? ⟨gb220, 5, none⟩ = some (.string a2_5) ∧ w87.cell? ⟨gb221, 0, none⟩ = some (.int .i64 a3_0) ∧ w87.cell? ⟨gb221, 1, none⟩ = some (.int .i64 a3_1) := hS_
             refine norm_ (a' := ?_) ?_ ?_
             rotate_left
             ·
              simp only [putAll, Act.put, List.setIfInBounds_toArray, List.set_cons_zero, List.set_cons_succ]
              rfl
             refine one_ (i := 9) (N := some 14) q8_16 rfl rfl (one_of HT_.out (by kernel_rfl)) (by decide) (fun K hK => ?_)
             refine box_step ?hg (N := 14) ?hd (cs := #[.int .i64 0, .slice none 0 0]) (t := 32) ?hr ?_; (case hd => rfl); (case hg => rfl); (case hr => first | (go_simp; done) | (go_simp; rfl))
             intro gb242 hg w88 hbox hb
             have n0_ := Aside0.mk (Kd.R_below (Kd.rk HO227) hb)
             have n1_ := Aside0.mk (Kd.R_below (Kd.rk HO234) hb)
             have n2_ := Aside0.mk (Kd.R_below (Kd.rk HO237) hb)
             have n3_ := Aside0.mk (Kd.R_below (Kd.rk HO241) hb)
             have n4_ := Aside0.mk (blk_below (g := gb219) (bk BK219) hb)
             have n5_ := Aside0.mk (blk_below (g := gb220) (bk BK220) hb)
             have n6_ := Aside0.mk (blk_below (g := gb221) (bk BK221) hb)
             have n7_ := Aside0.mk (blk_below (g := gb228) (bk BK228) hb)
             have n8_ := Aside0.mk (below_step (gw_ HB) hb)
             have n9_ := Aside0.mk (hbox)
             have n10_ := Aside0.mk ((by rw [hg]; exact (below_size (gw_ HB)) : w.heap.size ≤ gb242))
             have n11_ := Aside0.mk ((by rw [hg]; exact (below_size (gw_ HB)) : w.heap.size ≤ gb242))
             have n12_ := Aside0.mk ((by rw [hg]; exact Nat.ne_of_lt (blk_lt (g := gb219) (bk BK219)) : gb219 ≠ gb242))
             have n13_ := Aside0.mk ((by rw [hg]; exact Nat.ne_of_gt (blk_lt (g := gb219) (bk BK219)) : gb242 ≠ gb219))
             have n14_ := Aside0.mk ((by rw [hg]; exact Nat.ne_of_lt (blk_lt (g := gb220) (bk BK220)) : gb220 ≠ gb242))
             have n15_ := Aside0.mk ((by rw [hg]; exact Nat.ne_of_gt (blk_lt (g := gb220) (bk BK220)) : gb242 ≠ gb220))
             have n16_ := Aside0.mk ((by rw [hg]; exact Nat.ne_of_lt (blk_lt (g := gb221) (bk BK221)) : gb221 ≠ gb242))
             have n17_ := Aside0.mk ((by rw [hg]; exact Nat.ne_of_gt (blk_lt (g := gb221) (bk BK221)) : gb242 ≠ gb221))
             have n18_ := Aside0.mk ((by rw [hg]; exact Nat.ne_of_lt (blk_lt (g := gb228) (bk BK228)) : gb228 ≠ gb242))
             have n19_ := Aside0.mk ((by rw [hg]; exact Nat.ne_of_gt (blk_lt (g := gb228) (bk BK228)) : gb242 ≠ gb228))
             clear HO227
             clear HO234
             clear HO237
             clear HO241
             clear BK219
             clear BK220
             clear BK221
             clear BK228
             clear HB
             have HO227 := n0_
             have HO234 := n1_
             have HO237 := n2_
             have HO241 := n3_
             have BK219 := n4_
             have BK220 := n5_
             have BK221 := n6_
             have BK228 := n7_
             have HB := n8_
             have BK242 := n9_
             have GW242 := n10_
             have GE242 := n11_
             have NB219_242 := n12_
             have NB242_219 := n13_
             have NB220_242 := n14_
             have NB242_220 := n15_
             have NB221_242 := n16_
             have NB242_221 := n17_
             have NB228_242 := n18_
             have NB242_228 := n19_
             clear n0_ n1_ n2_ n3_ n4_ n5_ n6_ n7_ n8_ n9_ n10_ n11_ n12_ n13_ n14_ n15_ n16_ n17_ n18_ n19_
             clear hb hbox hg
             refine hK.out _ _ ⟨(blk_cell BK219.out 0).trans rfl, (blk_cell BK219.out 1).trans rfl, (blk_cell BK219.out 2).trans rfl, (blk_cell BK219.out 3).trans rfl, (blk_cell BK219.out 4).trans rfl, (blk_cell BK219.out 5).trans rfl, (blk_cell BK219.out 6).trans rfl, (blk_cell BK219.out 7).trans rfl, (blk_cell BK219.out 8).trans rfl, (blk_cell BK220.out 0).trans rfl, (blk_cell BK220.out 1).trans rfl, (blk_cell BK220.out 2).trans rfl, (blk_cell BK220.out 3).trans rfl, (blk_cell BK220.out 4).trans rfl, (blk_cell BK220.out 5).trans rfl, (blk_cell BK221.out 0).trans rfl, (blk_cell BK221.out 1).trans rfl⟩ (fun hHeld => ?_)
             clear hK K
             refine norm_ (a' := ?_) ?_ ?_
             rotate_left
             ·
              show Act.put _ (some 14) _ = _
              simp only [Act.put, List.setIfInBounds_toArray, List.set_cons_zero, List.set_cons_succ, i64_w, i32_w]
              rfl
             exact norm_ (by first | (simp only [putAll, Act.put, List.setIfInBounds_toArray, List.set_cons_zero, List.set_cons_succ]; done) | (simp only [putAll, Act.put, List.setIfInBounds_toArray, List.set_cons_zero, List.set_cons_succ]; rfl)) (hJ1_3_4_8_9 (v230, v233, v236, v240, gb242) _ ⟨hHeld, (Kd.rk HO227), (Kd.rk HO234), (Kd.rk HO237), (Kd.rk HO241), (bk BK219), (bk BK220), (bk BK221), (bk BK228), (bk BK242), GW242.out, GE242.out, NB219_242.out, NB242_219.out, NB220_242.out, NB242_220.out, NB221_242.out, NB242_221.out, NB228_242.out, NB242_228.out, (gw_ HB)⟩)
           rintro ⟨v230, v233, v236, v240, gb242⟩ w88 ⟨hS_, h0_, h1_, h2_, h3_, h4_, h5_, h6_, h7_, h8_, h9_, h10_, h11_, h12_, h13_, h14_, h15_, h16_, h17_, h18_, h19_⟩
           have n0_ : Aside0 (Kd.R (Kd.int .i64) 3 w88 w.heap.size (fun k_ => some k_ ≠ (v240 : Value).ownBlock) (.slice Ao77 t225.length co77) t225) := ⟨h0_⟩
           have n1_ : Aside0 (Kd.R k29 29 w88 w.heap.size (fun k_ => some k_ ≠ (v236 : Value).ownBlock ∧ k_ ≠ gb219) v233 y232) := ⟨h1_⟩
           have n2_ : Aside0 (Kd.R k29 29 w88 w.heap.size (fun k_ => some k_ ≠ (v233 : Value).ownBlock ∧ k_ ≠ gb219) v236 y235) := ⟨h2_⟩
           have n3_ : Aside0 (Kd.R (Kd.int .i64) 3 w88 w.heap.size (fun k_ => some k_ ≠ (.slice Ao77 t225.length co77 : Value).ownBlock) v240 t239) := ⟨h3_⟩
           have n4_ : Aside0 (w88.heap[gb219]? = some (.cells #[.int .i64 a1_0, .int .i64 a1_1, .int .i64 a1_2, .int .i64 a1_3, .int .i64 a1_4, .int .i64 a1_5, .int .i64 a1_6, .string a1_7, .int .i64 a1_8] 29 (0, 0))) := ⟨h4_⟩
           have n5_ : Aside0 (w88.heap[gb220]? = some (.cells #[.int .i64 a2_0, .int .i64 a2_1, .int .i64 a2_2, .int .i64 a2_3, .int .i64 a2_4, .string a2_5] 24 (0, 0))) := ⟨h5_⟩
           have n6_ : Aside0 (w88.heap[gb221]? = some (.cells #[.int .i64 a3_0, .int .i64 a3_1] 26 (0, 0))) := ⟨h6_⟩
           have n7_ : Aside0 (w88.heap[gb228]? = some (.cells #[.int .i64 t224, .slice Ao77 t225.length co77] 32 (0, 0))) := ⟨h7_⟩
           have n8_ : Aside0 (w88.heap[gb242]? = some (.cells #[.int .i64 0, .slice none 0 0] 32 (0, 0))) := ⟨h8_⟩
           have n9_ : Aside0 (w.heap.size ≤ gb242) := ⟨h9_⟩
           have n10_ : Aside0 (w.heap.size ≤ gb242) := ⟨h10_⟩
           have n11_ : Aside0 (gb219 ≠ gb242) := ⟨h11_⟩
           have n12_ : Aside0 (gb242 ≠ gb219) := ⟨h12_⟩
           have n13_ : Aside0 (gb220 ≠ gb242) := ⟨h13_⟩
           have n14_ : Aside0 (gb242 ≠ gb220) := ⟨h14_⟩
           have n15_ : Aside0 (gb221 ≠ gb242) := ⟨h15_⟩
           have n16_ : Aside0 (gb242 ≠ gb221) := ⟨h16_⟩
           have n17_ : Aside0 (gb228 ≠ gb242) := ⟨h17_⟩
           have n18_ : Aside0 (gb242 ≠ gb228) := ⟨h18_⟩
           have n19_ : Aside0 (Below w.heap.size w w88) := ⟨h19_⟩
           clear HO227
           clear BK219
           clear BK220
           clear BK221
           clear BK228
           clear HB
           clear h0_ h1_ h2_ h3_ h4_ h5_ h6_ h7_ h8_ h9_ h10_ h11_ h12_ h13_ h14_ h15_ h16_ h17_ h18_ h19_
           have HO227 := n0_
           have HO234 := n1_
           have HO237 := n2_
           have HO241 := n3_
           have BK219 := n4_
           have BK220 := n5_
           have BK221 := n6_
           have BK228 := n7_
           have BK242 := n8_
           have GW242 := n9_
           have GE242 := n10_
           have NB219_242 := n11_
           have NB242_219 := n12_
           have NB220_242 := n13_
           have NB242_220 := n14_
           have NB221_242 := n15_
           have NB242_221 := n16_
           have NB228_242 := n17_
           have NB242_228 := n18_
           have HB := n19_
           clear n0_ n1_ n2_ n3_ n4_ n5_ n6_ n7_ n8_ n9_ n10_ n11_ n12_ n13_ n14_ n15_ n16_ n17_ n18_ n19_
           have hHeld : w88.cell? ⟨gb219, 0, none⟩ = some (.int .i64 a1_0) ∧ w88.cell? ⟨gb219, 1, none⟩ = some (.int .i64 a1_1) ∧ w88.cell? ⟨gb219, 2, none⟩ = some (.int .i64 a1_2) ∧ w88.cell? ⟨gb219, 3, none⟩ = some (.int .i64 a1_3) ∧ w88.cell? ⟨gb219, 4, none⟩ = some (.int .i64 a1_4) ∧ w88.cell? ⟨gb219, 5, none⟩ = some (.int .i64 a1_5) ∧ w88.cell? ⟨gb219, 6, none⟩ = some (.int .i64 a1_6) ∧ w88.cell? ⟨gb219, 7, none⟩ = some (.string a1_7) ∧ w88.cell? ⟨gb219, 8, none⟩ = some (.int .i64 a1_8) ∧ w88.cell? ⟨gb220, 0, none⟩ = some (.int .i64 a2_0) ∧ w88.cell? ⟨gb220, 1, none⟩ = some (.int .i64 a2_1) ∧ w88.cell? ⟨gb220, 2, none⟩ = some (.int .i64 a2_2) ∧ w88.cell? ⟨gb220, 3, none⟩ = some (.int .i64 a2_3) ∧ w88.cell? ⟨gb220, 4, none⟩ = some (.int .i64 a2_4) ∧ w88.cell? ⟨gb220, 5, none⟩ = some (.string a2_5) ∧ w88.cell? ⟨gb221, 0, none⟩ = some (.int .i64 a3_0) ∧ w88.cell? ⟨gb221, 1, none⟩ = some (.int .i64 a3_1) := hS_
           obtain ⟨Ao90, co90, eo90⟩ := Kd.R_slice HO241.out
           (first | subst eo90 | (injection eo90 with f1_ f2_ f3_; have f4_ := f1_.symm; have f5_ := f3_.symm; clear f1_ f2_ f3_; subst f4_; subst f5_))
           refine norm_ (a' := ?_) ?_ ?_
           rotate_left
           ·
            simp only [putAll, Act.put, List.setIfInBounds_toArray, List.set_cons_zero, List.set_cons_succ]
            rfl
           refine last_ (i := 10) (N := none) q8_17 rfl rfl (one_of HT_.out (by kernel_rfl)) (by decide) (fun K hK => ?_)
           have hs89 : w88.cell? ⟨gb242, 0, none⟩ = some (.int .i64 0) := (blk_cell BK242.out 0).trans rfl
           have hfs89 := blk_frozen BK242.out 0
           have hns89_0 := NB219_242.out
           have hns89_1 := NB220_242.out
           have hns89_2 := NB221_242.out
           have hns89_3 := NB228_242.out
           have hms89_0 := NB242_219.out
           have hms89_1 := NB242_220.out
           have hms89_2 := NB242_221.out
           have hms89_3 := NB242_228.out
           have hs91 : w88.cell? ⟨gb242, 1, none⟩ = some (.slice none 0 0) := (blk_cell BK242.out 1).trans rfl
           have hfs91 := blk_frozen BK242.out 1
           have hns91_0 := NB219_242.out
           have hns91_1 := NB220_242.out
           have hns91_2 := NB221_242.out
           have hns91_3 := NB228_242.out
           have hms91_0 := NB242_219.out
           have hms91_1 := NB242_220.out
           have hms91_2 := NB242_221.out
           have hms91_3 := NB242_228.out
           refine skip_ (w1 := ?_) ?shw ?shN ?_ ?_
           case shw => exact rfl
           case shN => exact rfl
           rotate_left
           ·
            go_simp
            rfl
           refine hK.out _ _ ?_
           clear hK K
           refine done_ (done_of HT_.out (by kernel_rfl)) ?_
           have hnb92 := NB228_242.out
           have hnc92 := NB242_228.out
           obtain ⟨hcz93_0, hcz93_1⟩ := blk_cells2 BK228.out
           obtain ⟨hfz93_0, hfz93_1⟩ := blk_frozens2 BK228.out
           have hnb94 := NB242_219.out
           have hnc94 := NB219_242.out
           have hnb95 := NB242_220.out
           have hnc95 := NB220_242.out
           have hnb96 := NB242_221.out
           have hnc96 := NB221_242.out
           obtain ⟨hcz97_0, hcz97_1⟩ := blk_cells2 BK242.out
           obtain ⟨hfz97_0, hfz97_1⟩ := blk_frozens2 BK242.out
           try go_wp2_with (first | ((with_reducible refine gate_callee (f := 21) rfl ?_); refine goesL_ (some 57) rfl rfl Try.func21 (by kernel_rfl) rfl #[.agg #[.int .i64 t224, .slice Ao77 t225.length co77], .agg #[.int .i64 t238, .slice Ao90 t239.length co90]] rfl (by (try simp only [List.map_toArray, List.map_cons, List.map_nil]); first | done | rfl | (simp only [List.length_drop, List.length_take]; rfl)) ?_; (with_reducible refine (attr_Within.calls t224 _ _ t225 t238 _ _ t239 true _ ?side1 ?side2 ?side3 ?side4 A25.out).mono ?_); (case side1 => refine (Kd.R_reads' (e := 3) (base := w.heap.size) (ok := fun k_ => some k_ ≠ (.slice Ao90 t239.length co90 : Value).ownBlock) (n := t225.length) (c := co77) ?_).2.2; exact (by (with_reducible repeat (first | apply Kd.R_alloc | apply Kd.R_drewN | apply Kd.R_drew)); exact (Kd.R_mono (Kd.R_far2 (g := gb242) (Kd.R_types HO227.out BK242.out (by decide)) (fun _ hk => hk.2)) (fun _ h_ => h_.1)))); (case side2 => exact (Kd.R_reads' HO227.out).2.1); (case side3 => refine (Kd.R_reads' (e := 3) (base := w.heap.size) (ok := fun k_ => some k_ ≠ (.slice Ao77 t225.length co77 : Value).ownBlock) (n := t239.length) (c := co90) ?_).2.2; exact (by (with_reducible repeat (first | apply Kd.R_alloc | apply Kd.R_drewN | apply Kd.R_drew)); exact (Kd.R_mono (Kd.R_far2 (g := gb242) (Kd.R_types HO241.out BK242.out (by decide)) (fun _ hk => hk.2)) (fun _ h_ => h_.1)))); (case side4 => exact (Kd.R_reads' HO241.out).2.1); rintro e w98 ⟨rfl, hb⟩; refine ⟨_, rfl, ?_⟩; have n0_ := Aside0.mk (Kd.R_below (by (with_reducible repeat (first | apply Kd.R_alloc | apply Kd.R_drewN | apply Kd.R_drew)); exact (Kd.R_mono (Kd.R_far2 (g := gb242) (Kd.R_types HO227.out BK242.out (by decide)) (fun _ hk => hk.2)) (fun _ h_ => h_.1))) hb); have n1_ := Aside0.mk (Kd.R_below (by (with_reducible repeat (first | apply Kd.R_alloc | apply Kd.R_drewN | apply Kd.R_drew)); exact (Kd.R_mono (Kd.R_far2 (g := gb242) (Kd.R_types HO234.out BK242.out (by decide)) (fun _ hk => hk.2)) (fun _ h_ => h_.1))) hb); have n2_ := Aside0.mk (Kd.R_below (by (with_reducible repeat (first | apply Kd.R_alloc | apply Kd.R_drewN | apply Kd.R_drew)); exact (Kd.R_mono (Kd.R_far2 (g := gb242) (Kd.R_types HO237.out BK242.out (by decide)) (fun _ hk => hk.2)) (fun _ h_ => h_.1))) hb); have n3_ := Aside0.mk (Kd.R_below (by (with_reducible repeat (first | apply Kd.R_alloc | apply Kd.R_drewN | apply Kd.R_drew)); exact (Kd.R_mono (Kd.R_far2 (g := gb242) (Kd.R_types HO241.out BK242.out (by decide)) (fun _ hk => hk.2)) (fun _ h_ => h_.1))) hb); have n4_ := Aside0.mk (blk_below (g := gb219) (o := .cells #[.int .i64 a1_0, .int .i64 a1_1, .int .i64 a1_2, .int .i64 a1_3, .int .i64 a1_4, .int .i64 a1_5, .int .i64 a1_6, .string a1_7, .int .i64 a1_8] 29 (0, 0)) (by (with_reducible repeat (first | refine blk_drewN ?_ _ | refine blk_drew ?_ | refine blk_alloc ?_ _)); refine blk_far ?_ NB219_242.out _; (with_reducible repeat (first | refine blk_drewN ?_ _ | refine blk_drew ?_ | refine blk_alloc ?_ _)); refine blk_far ?_ NB219_242.out _; (with_reducible repeat (first | refine blk_drewN ?_ _ | refine blk_drew ?_ | refine blk_alloc ?_ _)); exact BK219.out) hb); have n5_ := Aside0.mk (blk_below (g := gb220) (o := .cells #[.int .i64 a2_0, .int .i64 a2_1, .int .i64 a2_2, .int .i64 a2_3, .int .i64 a2_4, .string a2_5] 24 (0, 0)) (by (with_reducible repeat (first | refine blk_drewN ?_ _ | refine blk_drew ?_ | refine blk_alloc ?_ _)); refine blk_far ?_ NB220_242.out _; (with_reducible repeat (first | refine blk_drewN ?_ _ | refine blk_drew ?_ | refine blk_alloc ?_ _)); refine blk_far ?_ NB220_242.out _; (with_reducible repeat (first | refine blk_drewN ?_ _ | refine blk_drew ?_ | refine blk_alloc ?_ _)); exact BK220.out) hb); have n6_ := Aside0.mk (blk_below (g := gb221) (o := .cells #[.int .i64 a3_0, .int .i64 a3_1] 26 (0, 0)) (by (with_reducible repeat (first | refine blk_drewN ?_ _ | refine blk_drew ?_ | refine blk_alloc ?_ _)); refine blk_far ?_ NB221_242.out _; (with_reducible repeat (first | refine blk_drewN ?_ _ | refine blk_drew ?_ | refine blk_alloc ?_ _)); refine blk_far ?_ NB221_242.out _; (with_reducible repeat (first | refine blk_drewN ?_ _ | refine blk_drew ?_ | refine blk_alloc ?_ _)); exact BK221.out) hb); have n7_ := Aside0.mk (blk_below (g := gb228) (o := .cells #[.int .i64 t224, .slice Ao77 t225.length co77] 32 (0, 0)) (by (with_reducible repeat (first | refine blk_drewN ?_ _ | refine blk_drew ?_ | refine blk_alloc ?_ _)); refine blk_far ?_ NB228_242.out _; (with_reducible repeat (first | refine blk_drewN ?_ _ | refine blk_drew ?_ | refine blk_alloc ?_ _)); refine blk_far ?_ NB228_242.out _; (with_reducible repeat (first | refine blk_drewN ?_ _ | refine blk_drew ?_ | refine blk_alloc ?_ _)); exact BK228.out) hb); have n8_ := Aside0.mk (blk_below (g := gb242) (o := .cells #[.int .i64 t238, .slice Ao90 t239.length co90] 32 (0, 0)) (by (with_reducible repeat (first | refine blk_drewN ?_ _ | refine blk_drew ?_ | refine blk_alloc ?_ _)); refine blk_put (cs := #[.int .i64 t238, .slice none 0 0]) ?_ 1 _ rfl; (with_reducible repeat (first | refine blk_drewN ?_ _ | refine blk_drew ?_ | refine blk_alloc ?_ _)); refine blk_put (cs := #[.int .i64 0, .slice none 0 0]) ?_ 0 _ rfl; (with_reducible repeat (first | refine blk_drewN ?_ _ | refine blk_drew ?_ | refine blk_alloc ?_ _)); exact BK242.out) hb); have n9_ := Aside0.mk (below_step (gw_ HB) hb); clear HO227; clear HO234; clear HO237; clear HO241; clear BK219; clear BK220; clear BK221; clear BK228; clear BK242; clear HB; have HO227 := n0_; have HO234 := n1_; have HO237 := n2_; have HO241 := n3_; have BK219 := n4_; have BK220 := n5_; have BK221 := n6_; have BK228 := n7_; have BK242 := n8_; have HB := n9_; clear n0_ n1_ n2_ n3_ n4_ n5_ n6_ n7_ n8_ n9_; (try clear hb); (try clear hb2); (try clear hk); (try clear hi); obtain ⟨hcz99_0, hcz99_1, hcz99_2, hcz99_3, hcz99_4, hcz99_5, hcz99_6, hcz99_7, hcz99_8⟩ := blk_cells9 BK219.out; obtain ⟨hfz99_0, hfz99_1, hfz99_2, hfz99_3, hfz99_4, hfz99_5, hfz99_6, hfz99_7, hfz99_8⟩ := blk_frozens9 BK219.out; obtain ⟨hcz100_0, hcz100_1, hcz100_2, hcz100_3, hcz100_4, hcz100_5⟩ := blk_cells6 BK220.out; obtain ⟨hfz100_0, hfz100_1, hfz100_2, hfz100_3, hfz100_4, hfz100_5⟩ := blk_frozens6 BK220.out) | (go_at_call 19; (with_reducible refine (keys_Interfere.calls a1_2 a1_3 a1_4 a1_5 a1_6 a1_7 a2_0 a2_1 a2_2 a2_3 a2_4 a2_5 false _ A27.out).mono ?_); rintro e w101 ⟨rfl, hb⟩; have n0_ := Aside0.mk (Kd.R_below (Kd.rk HO227) hb); have n1_ := Aside0.mk (Kd.R_below (Kd.rk HO234) hb); have n2_ := Aside0.mk (Kd.R_below (Kd.rk HO237) hb); have n3_ := Aside0.mk (Kd.R_below (Kd.rk HO241) hb); have n4_ := Aside0.mk (blk_below (g := gb219) (bk BK219) hb); have n5_ := Aside0.mk (blk_below (g := gb220) (bk BK220) hb); have n6_ := Aside0.mk (blk_below (g := gb221) (bk BK221) hb); have n7_ := Aside0.mk (blk_below (g := gb228) (bk BK228) hb); have n8_ := Aside0.mk (blk_below (g := gb242) (bk BK242) hb); have n9_ := Aside0.mk (below_step (gw_ HB) hb); clear HO227; clear HO234; clear HO237; clear HO241; clear BK219; clear BK220; clear BK221; clear BK228; clear BK242; clear HB; have HO227 := n0_; have HO234 := n1_; have HO237 := n2_; have HO241 := n3_; have BK219 := n4_; have BK220 := n5_; have BK221 := n6_; have BK228 := n7_; have BK242 := n8_; have HB := n9_; clear n0_ n1_ n2_ n3_ n4_ n5_ n6_ n7_ n8_ n9_; (try clear hb); (try clear hb2); (try clear hk); (try clear hi); obtain ⟨hcz102_0, hcz102_1⟩ := blk_cells2 BK228.out; obtain ⟨hfz102_0, hfz102_1⟩ := blk_frozens2 BK228.out; obtain ⟨hcz103_0, hcz103_1⟩ := blk_cells2 BK242.out; obtain ⟨hfz103_0, hfz103_1⟩ := blk_frozens2 BK242.out) | (go_at_call 18; (with_reducible refine (attr_Same.calls t224 _ _ t225 t238 _ _ t239 t245 _ ?side1 ?side2 ?side3 ?side4 A65.out).mono ?_); (case side1 => repeat (first | exact (Kd.R_reads' HO227.out).2.2 | (with_reducible refine Kd.C_alloc ?_ _) | (with_reducible refine Kd.C_drewN ?_ _) | (with_reducible refine Kd.C_drew ?_))); (case side2 => exact (Kd.R_reads' HO227.out).2.1); (case side3 => repeat (first | exact (Kd.R_reads' HO241.out).2.2 | (with_reducible refine Kd.C_alloc ?_ _) | (with_reducible refine Kd.C_drewN ?_ _) | (with_reducible refine Kd.C_drew ?_))); (case side4 => exact (Kd.R_reads' HO241.out).2.1); rintro e w104 ⟨rfl, hb⟩; have n0_ := Aside0.mk (Kd.R_below (Kd.rk HO227) hb); have n1_ := Aside0.mk (Kd.R_below (Kd.rk HO234) hb); have n2_ := Aside0.mk (Kd.R_below (Kd.rk HO237) hb); have n3_ := Aside0.mk (Kd.R_below (Kd.rk HO241) hb); have n4_ := Aside0.mk (blk_below (g := gb219) (bk BK219) hb); have n5_ := Aside0.mk (blk_below (g := gb220) (bk BK220) hb); have n6_ := Aside0.mk (blk_below (g := gb221) (bk BK221) hb); have n7_ := Aside0.mk (blk_below (g := gb228) (bk BK228) hb); have n8_ := Aside0.mk (blk_below (g := gb242) (bk BK242) hb); have n9_ := Aside0.mk (below_step (gw_ HB) hb); clear HO227; clear HO234; clear HO237; clear HO241; clear BK219; clear BK220; clear BK221; clear BK228; clear BK242; clear HB; have HO227 := n0_; have HO234 := n1_; have HO237 := n2_; have HO241 := n3_; have BK219 := n4_; have BK220 := n5_; have BK221 := n6_; have BK228 := n7_; have BK242 := n8_; have HB := n9_; clear n0_ n1_ n2_ n3_ n4_ n5_ n6_ n7_ n8_ n9_; (try clear hb); (try clear hb2); (try clear hk); (try clear hi)))
           go_ret
           exact ⟨by first | rfl | (simp [errW_none, errW_some] <;> rfl) | (simp [*, errW_none, errW_some] <;> rfl), gw_ HB⟩
         ·
          replace c26 := Bool.eq_false_iff.mpr c26
          subst c26
          have H1 : (some false) = some r := by rw [if_neg (show ¬ (false = true) by decide)] at H; exact H
          clear H
          have H := H1
          clear H1
          exact absurd (Option.some.inj H) (by rw [HRT.out]; decide)
        ·
         rw [if_neg c23] at H
         exact absurd H (by simp)
       ·
        rw [if_neg c22] at H
        exact absurd H (by simp)

end Go.Proofs.Ytgenfbpaooeofaa.P
