/- Plain Lean functions and their contracts over the translation, written by a program of this session (myprint.py, over the kit's print); no condition but each contract's own. -/
import Derived.Test.YtkijkdifmoifaaaPx0
import Derived.Test.YtkijkdifmoifaaaPx1
import Derived.Test.YtkijkdifmoifaaaPx7
namespace Go.Proofs.Ytkijkdifmoifaaa.P
open Go.RowKit Go.Proofs.YtkijkdifmoifaaaW.PrintWords Go.Proofs.YtkijkdifmoifaaaW.PrintLast Go.Proofs.YtkijkdifmoifaaaW.PrintMore
attribute [local go_sem] max2_int min2_int max_two min_two max_three min_three max_four min_four   -- for this text's walks alone
set_option linter.unusedVariables false
set_option linter.unusedSimpArgs false

attribute [local go_sem high] eqA25
def colloquyref09_good.f (a0_0 : Int) (a0_1 : Int) : Option (Bool) := (colloquyref07_May.f a0_0 a0_1).bind fun t569 => (if t569 = true then (some (!(a0_0 == 0) || (!(a0_1 == 0)))) else (some false))
set_option maxHeartbeats 8000000 in
set_option maxRecDepth 100000 in
theorem colloquyref09_good.calls (a0_0 : Int) (a0_1 : Int) (r : Bool) (w : World) (h : colloquyref09_good.f a0_0 a0_1 = some r) :
  Calls Try.prog 38 #[.agg #[.int .i64 a0_0, .int .i64 a0_1]] w fun e w' => e = .returned (.bool r) ∧ Below w.heap.size w w' := by
 have hu25 := Try.underlying25
 have HB := Aside0.mk (Below.refl w.heap.size w)
 have H : ((colloquyref07_May.f a0_0 a0_1).bind fun t569 => (if t569 = true then (some (!(a0_0 == 0) || (!(a0_1 == 0)))) else (some false))) = some r := h
 clear h
 replace H := Option.bind_eq_some_iff.mp H
 obtain ⟨t569, A20, H⟩ := H
 replace H : (if t569 = true then (some (!(a0_0 == 0) || (!(a0_1 == 0)))) else (some false)) = some r := H
 have A2 := Aside0.mk A20
 clear A20
 by_cases c3 : t569 = true
 ·
  subst c3
  have H1 : (some (!(a0_0 == 0) || (!(a0_1 == 0)))) = some r := by rw [if_pos rfl] at H; exact H
  clear H
  have H := H1
  clear H1
  obtain rfl := Option.some.inj H
  go_enter Try.func38, Try.ntmps38
  go_wp2_with (first | ((with_reducible refine gate_dst (N := 1) rfl ?_); refine box_event ?hg (N := 1) ?hd (cs := #[.int .i64 a0_0, .int .i64 a0_1]) (t := 25) ?hr ?_; (case hd => rfl); (case hg => rfl); (case hr => first | (go_simp; done) | (go_simp; rfl)); intro gb568 hg w4 hbox hb; have s_ := step_size_ (gw_ HB) hb hg; have n0_ := Aside0.mk s_.1; have n1_ := Aside0.mk (hbox); have n2_ := Aside0.mk s_.2; clear s_; have n3_ := n2_; clear HB; have HB := n0_; have BK568 := n1_; have GW568 := n2_; have GE568 := n3_; clear n0_ n1_ n2_ n3_; clear hb hbox hg; obtain ⟨hcz5_0, hcz5_1⟩ := blk_cells2 BK568.out; obtain ⟨hfz5_0, hfz5_1⟩ := blk_frozens2 BK568.out) | ((with_reducible refine gate_callee (f := 34) rfl ?_); refine goesL_ (some 5) rfl rfl Try.func34 (by kernel_rfl) rfl #[.agg #[.int .i64 a0_0, .int .i64 a0_1]] rfl (by (try simp only [List.map_toArray, List.map_cons, List.map_nil]); first | done | rfl | (simp only [List.length_drop, List.length_take]; rfl)) ?_; (with_reducible refine (colloquyref07_May.calls a0_0 a0_1 true _ A2.out).mono ?_); rintro e w6 ⟨rfl, hb⟩; refine ⟨_, rfl, ?_⟩; have n0_ := Aside0.mk (blk_below (g := gb568) (bk BK568) hb); have n1_ := Aside0.mk (below_step (gw_ HB) hb); clear BK568; clear HB; have BK568 := n0_; have HB := n1_; clear n0_ n1_; (try clear hb); (try clear hb2); (try clear hk); (try clear hi); obtain ⟨hcz7_0, hcz7_1⟩ := blk_cells2 BK568.out; have hfz7_0 := blk_frozen BK568.out 0; have hfz7_1 := blk_frozen BK568.out 1))
  go_ret
  exact ⟨by first | rfl | (simp [errW_none, errW_some] <;> rfl) | (simp [*, errW_none, errW_some] <;> rfl), gw_ HB⟩
 ·
  replace c3 := Bool.eq_false_iff.mpr c3
  subst c3
  have H1 : (some false) = some r := by rw [if_neg (show ¬ (false = true) by decide)] at H; exact H
  clear H
  have H := H1
  clear H1
  obtain rfl := Option.some.inj H
  go_enter Try.func38, Try.ntmps38
  go_wp2_with (first | ((with_reducible refine gate_dst (N := 1) rfl ?_); refine box_event ?hg (N := 1) ?hd (cs := #[.int .i64 a0_0, .int .i64 a0_1]) (t := 25) ?hr ?_; (case hd => rfl); (case hg => rfl); (case hr => first | (go_simp; done) | (go_simp; rfl)); intro gb568 hg w8 hbox hb; have s_ := step_size_ (gw_ HB) hb hg; have n0_ := Aside0.mk s_.1; have n1_ := Aside0.mk (hbox); have n2_ := Aside0.mk s_.2; clear s_; have n3_ := n2_; clear HB; have HB := n0_; have BK568 := n1_; have GW568 := n2_; have GE568 := n3_; clear n0_ n1_ n2_ n3_; clear hb hbox hg; obtain ⟨hcz9_0, hcz9_1⟩ := blk_cells2 BK568.out; obtain ⟨hfz9_0, hfz9_1⟩ := blk_frozens2 BK568.out) | ((with_reducible refine gate_callee (f := 34) rfl ?_); refine goesL_ (some 5) rfl rfl Try.func34 (by kernel_rfl) rfl #[.agg #[.int .i64 a0_0, .int .i64 a0_1]] rfl (by (try simp only [List.map_toArray, List.map_cons, List.map_nil]); first | done | rfl | (simp only [List.length_drop, List.length_take]; rfl)) ?_; (with_reducible refine (colloquyref07_May.calls a0_0 a0_1 false _ A2.out).mono ?_); rintro e w10 ⟨rfl, hb⟩; refine ⟨_, rfl, ?_⟩; have n0_ := Aside0.mk (blk_below (g := gb568) (bk BK568) hb); have n1_ := Aside0.mk (below_step (gw_ HB) hb); clear BK568; clear HB; have BK568 := n0_; have HB := n1_; clear n0_ n1_; (try clear hb); (try clear hb2); (try clear hk); (try clear hi)))
  go_ret
  exact ⟨by first | rfl | (simp [errW_none, errW_some] <;> rfl) | (simp [*, errW_none, errW_some] <;> rfl), gw_ HB⟩

def colloquyref09_late.f (k : Nat) (a0_0 : Int) (a0_1 : Int) (a0_2 : Int) (a0_3 : Int) (a0_4 : Int) (a0_5 : Int) (a0_6 : Int) (a0_7 : Int) (a0_8 : Int) (a0_9 : Int) (a0_10 : ByteArray) (a0_11 : Int) (l0_12 : List Int) (a1_0 : Int) (a1_1 : Int) : Option (Bool) := (colloquyref09_good.f a1_0 a1_1).bind fun t572 => (if t572 = true then (if a0_0 = 3 then (some true) else ((colloquyref07_Cmp.f k a1_0 a1_1 a0_1 a0_2).bind fun t573 => (some (decide (t573 < 0))))) else (some true))
set_option maxHeartbeats 8000000 in
set_option maxRecDepth 100000 in
theorem colloquyref09_late.calls (k : Nat) (a0_0 : Int) (a0_1 : Int) (a0_2 : Int) (a0_3 : Int) (a0_4 : Int) (a0_5 : Int) (a0_6 : Int) (a0_7 : Int) (a0_8 : Int) (a0_9 : Int) (a0_10 : ByteArray) (a0_11 : Int) (A0_12 : Option Addr) (c0_12 : Nat) (l0_12 : List Int) (a1_0 : Int) (a1_1 : Int) (r : Bool) (w : World) (hr0_12 : Kd.C (Kd.int .i64) w A0_12 l0_12.length l0_12) (hc0_12 : l0_12.length ≤ c0_12) (h : colloquyref09_late.f k a0_0 a0_1 a0_2 a0_3 a0_4 a0_5 a0_6 a0_7 a0_8 a0_9 a0_10 a0_11 l0_12 a1_0 a1_1 = some r) :
  Calls Try.prog 44 #[.agg #[.int .i64 a0_0, .int .i64 a0_1, .int .i64 a0_2, .int .i64 a0_3, .int .i64 a0_4, .int .i64 a0_5, .int .i64 a0_6, .int .i64 a0_7, .int .i64 a0_8, .int .i64 a0_9, .string a0_10, .int .i64 a0_11, .slice A0_12 l0_12.length c0_12], .agg #[.int .i64 a1_0, .int .i64 a1_1]] w fun e w' => e = .returned (.bool r) ∧ Below w.heap.size w w' := by
 have hu32 := Try.underlying32
 have hu25 := Try.underlying25
 have HR0_12 := Aside0.mk hr0_12
 have HC0_12 := Aside0.mk hc0_12
 clear hr0_12 hc0_12
 have HB := Aside0.mk (Below.refl w.heap.size w)
 have H : ((colloquyref09_good.f a1_0 a1_1).bind fun t572 => (if t572 = true then (if a0_0 = 3 then (some true) else ((colloquyref07_Cmp.f k a1_0 a1_1 a0_1 a0_2).bind fun t573 => (some (decide (t573 < 0))))) else (some true))) = some r := h
 clear h
 replace H := Option.bind_eq_some_iff.mp H
 obtain ⟨t572, A30, H⟩ := H
 replace H : (if t572 = true then (if a0_0 = 3 then (some true) else ((colloquyref07_Cmp.f k a1_0 a1_1 a0_1 a0_2).bind fun t573 => (some (decide (t573 < 0))))) else (some true)) = some r := H
 have A3 := Aside0.mk A30
 clear A30
 by_cases c4 : t572 = true
 ·
  subst c4
  have H1 : (if a0_0 = 3 then (some true) else ((colloquyref07_Cmp.f k a1_0 a1_1 a0_1 a0_2).bind fun t573 => (some (decide (t573 < 0))))) = some r := by rw [if_pos rfl] at H; exact H
  clear H
  have H := H1
  clear H1
  by_cases c5 : a0_0 = 3
  ·
   rw [if_pos c5] at H
   have c5b0 : (a0_0 == 3) = true := beq_iff_eq.mpr c5
   have c5b1 : (a0_0 != 3) = false := bne_eq_false_iff_eq.mpr c5
   clear c5
   obtain rfl := Option.some.inj H
   go_enter Try.func44, Try.ntmps44
   go_wp2_with (first | ((with_reducible refine gate_dst (N := 2) rfl ?_); refine box_event ?hg (N := 2) ?hd (cs := #[.int .i64 a0_0, .int .i64 a0_1, .int .i64 a0_2, .int .i64 a0_3, .int .i64 a0_4, .int .i64 a0_5, .int .i64 a0_6, .int .i64 a0_7, .int .i64 a0_8, .int .i64 a0_9, .string a0_10, .int .i64 a0_11, .slice A0_12 l0_12.length c0_12]) (t := 32) ?hr ?_; (case hd => rfl); (case hg => rfl); (case hr => first | (go_simp; done) | (go_simp; rfl)); intro gb570 hg w6 hbox hb; have s_ := step_size_ (gw_ HB) hb hg; have n0_ := Aside0.mk s_.1; have n1_ := Aside0.mk (hbox); have n2_ := Aside0.mk s_.2; clear s_; have n3_ := n2_; clear HB; have HB := n0_; have BK570 := n1_; have GW570 := n2_; have GE570 := n3_; clear n0_ n1_ n2_ n3_; clear hb hbox hg) | ((with_reducible refine gate_dst (N := 3) rfl ?_); refine box_event ?hg (N := 3) ?hd (cs := #[.int .i64 a1_0, .int .i64 a1_1]) (t := 25) ?hr ?_; (case hd => rfl); (case hg => rfl); (case hr => first | (go_simp; done) | (go_simp; rfl)); intro gb571 hg w7 hbox hb; have n0_ := Aside0.mk (blk_below (g := gb570) (bk BK570) hb); have s_ := step_size_ (gw_ HB) hb hg; have n1_ := Aside0.mk s_.1; have n2_ := Aside0.mk (hbox); have n3_ := Aside0.mk s_.2; clear s_; have n4_ := n3_; have l_ := blk_lt_ (g := gb570) hg (bk BK570); have n5_ := Aside0.mk (Nat.ne_of_lt l_); have n6_ := Aside0.mk (Nat.ne_of_gt l_); clear l_; clear BK570; clear HB; have BK570 := n0_; have HB := n1_; have BK571 := n2_; have GW571 := n3_; have GE571 := n4_; have NB570_571 := n5_; have NB571_570 := n6_; clear n0_ n1_ n2_ n3_ n4_ n5_ n6_; clear hb hbox hg; have hnb8 := NB571_570.out; have hnc8 := NB570_571.out; obtain ⟨hcz9_0, hcz9_1⟩ := blk_cells2 BK571.out; obtain ⟨hfz9_0, hfz9_1⟩ := blk_frozens2 BK571.out) | ((with_reducible refine gate_callee (f := 38) rfl ?_); refine goesL_ (some 7) rfl rfl Try.func38 (by kernel_rfl) rfl #[.agg #[.int .i64 a1_0, .int .i64 a1_1]] rfl (by (try simp only [List.map_toArray, List.map_cons, List.map_nil]); first | done | rfl | (simp only [List.length_drop, List.length_take]; rfl)) ?_; (with_reducible refine (colloquyref09_good.calls a1_0 a1_1 true _ A3.out).mono ?_); rintro e w10 ⟨rfl, hb⟩; refine ⟨_, rfl, ?_⟩; have n0_ := Aside0.mk (blk_below (g := gb570) (bk BK570) hb); have n1_ := Aside0.mk (blk_below (g := gb571) (bk BK571) hb); have n2_ := Aside0.mk (below_step (gw_ HB) hb); clear BK570; clear BK571; clear HB; have BK570 := n0_; have BK571 := n1_; have HB := n2_; clear n0_ n1_ n2_; (try clear hb); (try clear hb2); (try clear hk); (try clear hi); obtain ⟨hcz11_0, hcz11_1, hcz11_2, hcz11_3, hcz11_4, hcz11_5, hcz11_6, hcz11_7, hcz11_8, hcz11_9, hcz11_10, hcz11_11, hcz11_12⟩ := blk_cells13 BK570.out; have hfz11_0 := blk_frozen BK570.out 0; have hfz11_1 := blk_frozen BK570.out 1; have hfz11_2 := blk_frozen BK570.out 2; have hfz11_3 := blk_frozen BK570.out 3; have hfz11_4 := blk_frozen BK570.out 4; have hfz11_5 := blk_frozen BK570.out 5; have hfz11_6 := blk_frozen BK570.out 6; have hfz11_7 := blk_frozen BK570.out 7; have hfz11_8 := blk_frozen BK570.out 8; have hfz11_9 := blk_frozen BK570.out 9; have hfz11_10 := blk_frozen BK570.out 10; have hfz11_11 := blk_frozen BK570.out 11; have hfz11_12 := blk_frozen BK570.out 12))
   go_ret
   exact ⟨by first | rfl | (simp [errW_none, errW_some] <;> rfl) | (simp [*, errW_none, errW_some] <;> rfl), gw_ HB⟩
  ·
   rw [if_neg c5] at H
   have c5b0 : (a0_0 == 3) = false := beq_eq_false_iff_ne.mpr c5
   have c5b1 : (a0_0 != 3) = true := bne_iff_ne.mpr c5
   replace H := Option.bind_eq_some_iff.mp H
   obtain ⟨t573, A120, H⟩ := H
   replace H : (some (decide (t573 < 0))) = some r := H
   have A12 := Aside0.mk A120
   clear A120
   obtain rfl := Option.some.inj H
   go_enter Try.func44, Try.ntmps44
   go_wp2_with (first | ((with_reducible refine gate_dst (N := 2) rfl ?_); refine box_event ?hg (N := 2) ?hd (cs := #[.int .i64 a0_0, .int .i64 a0_1, .int .i64 a0_2, .int .i64 a0_3, .int .i64 a0_4, .int .i64 a0_5, .int .i64 a0_6, .int .i64 a0_7, .int .i64 a0_8, .int .i64 a0_9, .string a0_10, .int .i64 a0_11, .slice A0_12 l0_12.length c0_12]) (t := 32) ?hr ?_; (case hd => rfl); (case hg => rfl); (case hr => first | (go_simp; done) | (go_simp; rfl)); intro gb570 hg w13 hbox hb; have s_ := step_size_ (gw_ HB) hb hg; have n0_ := Aside0.mk s_.1; have n1_ := Aside0.mk (hbox); have n2_ := Aside0.mk s_.2; clear s_; have n3_ := n2_; clear HB; have HB := n0_; have BK570 := n1_; have GW570 := n2_; have GE570 := n3_; clear n0_ n1_ n2_ n3_; clear hb hbox hg) | ((with_reducible refine gate_dst (N := 3) rfl ?_); refine box_event ?hg (N := 3) ?hd (cs := #[.int .i64 a1_0, .int .i64 a1_1]) (t := 25) ?hr ?_; (case hd => rfl); (case hg => rfl); (case hr => first | (go_simp; done) | (go_simp; rfl)); intro gb571 hg w14 hbox hb; have n0_ := Aside0.mk (blk_below (g := gb570) (bk BK570) hb); have s_ := step_size_ (gw_ HB) hb hg; have n1_ := Aside0.mk s_.1; have n2_ := Aside0.mk (hbox); have n3_ := Aside0.mk s_.2; clear s_; have n4_ := n3_; have l_ := blk_lt_ (g := gb570) hg (bk BK570); have n5_ := Aside0.mk (Nat.ne_of_lt l_); have n6_ := Aside0.mk (Nat.ne_of_gt l_); clear l_; clear BK570; clear HB; have BK570 := n0_; have HB := n1_; have BK571 := n2_; have GW571 := n3_; have GE571 := n4_; have NB570_571 := n5_; have NB571_570 := n6_; clear n0_ n1_ n2_ n3_ n4_ n5_ n6_; clear hb hbox hg; have hnb15 := NB571_570.out; have hnc15 := NB570_571.out; obtain ⟨hcz16_0, hcz16_1⟩ := blk_cells2 BK571.out; obtain ⟨hfz16_0, hfz16_1⟩ := blk_frozens2 BK571.out) | ((with_reducible refine gate_callee (f := 38) rfl ?_); refine goesL_ (some 7) rfl rfl Try.func38 (by kernel_rfl) rfl #[.agg #[.int .i64 a1_0, .int .i64 a1_1]] rfl (by (try simp only [List.map_toArray, List.map_cons, List.map_nil]); first | done | rfl | (simp only [List.length_drop, List.length_take]; rfl)) ?_; (with_reducible refine (colloquyref09_good.calls a1_0 a1_1 true _ A3.out).mono ?_); rintro e w17 ⟨rfl, hb⟩; refine ⟨_, rfl, ?_⟩; have n0_ := Aside0.mk (blk_below (g := gb570) (bk BK570) hb); have n1_ := Aside0.mk (blk_below (g := gb571) (bk BK571) hb); have n2_ := Aside0.mk (below_step (gw_ HB) hb); clear BK570; clear BK571; clear HB; have BK570 := n0_; have BK571 := n1_; have HB := n2_; clear n0_ n1_ n2_; (try clear hb); (try clear hb2); (try clear hk); (try clear hi); obtain ⟨hcz18_0, hcz18_1, hcz18_2, hcz18_3, hcz18_4, hcz18_5, hcz18_6, hcz18_7, hcz18_8, hcz18_9, hcz18_10, hcz18_11, hcz18_12⟩ := blk_cells13 BK570.out; obtain ⟨hfz18_0, hfz18_1, hfz18_2, hfz18_3, hfz18_4, hfz18_5, hfz18_6, hfz18_7, hfz18_8, hfz18_9, hfz18_10, hfz18_11, hfz18_12⟩ := blk_frozens13 BK570.out; obtain ⟨hcz19_0, hcz19_1⟩ := blk_cells2 BK571.out; obtain ⟨hfz19_0, hfz19_1⟩ := blk_frozens2 BK571.out) | (go_at_call 35; (with_reducible refine (colloquyref07_Cmp.calls k a1_0 a1_1 a0_1 a0_2 t573 _ A12.out).mono ?_); rintro e w20 ⟨rfl, hb⟩; have n0_ := Aside0.mk (blk_below (g := gb570) (bk BK570) hb); have n1_ := Aside0.mk (blk_below (g := gb571) (bk BK571) hb); have n2_ := Aside0.mk (below_step (gw_ HB) hb); clear BK570; clear BK571; clear HB; have BK570 := n0_; have BK571 := n1_; have HB := n2_; clear n0_ n1_ n2_; (try clear hb); (try clear hb2); (try clear hk); (try clear hi)))
   go_ret
   exact ⟨by first | rfl | (simp [errW_none, errW_some] <;> rfl) | (simp [*, errW_none, errW_some] <;> rfl), gw_ HB⟩
 ·
  replace c4 := Bool.eq_false_iff.mpr c4
  subst c4
  have H1 : (some true) = some r := by rw [if_neg (show ¬ (false = true) by decide)] at H; exact H
  clear H
  have H := H1
  clear H1
  obtain rfl := Option.some.inj H
  go_enter Try.func44, Try.ntmps44
  go_wp2_with (first | ((with_reducible refine gate_dst (N := 2) rfl ?_); refine box_event ?hg (N := 2) ?hd (cs := #[.int .i64 a0_0, .int .i64 a0_1, .int .i64 a0_2, .int .i64 a0_3, .int .i64 a0_4, .int .i64 a0_5, .int .i64 a0_6, .int .i64 a0_7, .int .i64 a0_8, .int .i64 a0_9, .string a0_10, .int .i64 a0_11, .slice A0_12 l0_12.length c0_12]) (t := 32) ?hr ?_; (case hd => rfl); (case hg => rfl); (case hr => first | (go_simp; done) | (go_simp; rfl)); intro gb570 hg w21 hbox hb; have s_ := step_size_ (gw_ HB) hb hg; have n0_ := Aside0.mk s_.1; have n1_ := Aside0.mk (hbox); have n2_ := Aside0.mk s_.2; clear s_; have n3_ := n2_; clear HB; have HB := n0_; have BK570 := n1_; have GW570 := n2_; have GE570 := n3_; clear n0_ n1_ n2_ n3_; clear hb hbox hg) | ((with_reducible refine gate_dst (N := 3) rfl ?_); refine box_event ?hg (N := 3) ?hd (cs := #[.int .i64 a1_0, .int .i64 a1_1]) (t := 25) ?hr ?_; (case hd => rfl); (case hg => rfl); (case hr => first | (go_simp; done) | (go_simp; rfl)); intro gb571 hg w22 hbox hb; have n0_ := Aside0.mk (blk_below (g := gb570) (bk BK570) hb); have s_ := step_size_ (gw_ HB) hb hg; have n1_ := Aside0.mk s_.1; have n2_ := Aside0.mk (hbox); have n3_ := Aside0.mk s_.2; clear s_; have n4_ := n3_; have l_ := blk_lt_ (g := gb570) hg (bk BK570); have n5_ := Aside0.mk (Nat.ne_of_lt l_); have n6_ := Aside0.mk (Nat.ne_of_gt l_); clear l_; clear BK570; clear HB; have BK570 := n0_; have HB := n1_; have BK571 := n2_; have GW571 := n3_; have GE571 := n4_; have NB570_571 := n5_; have NB571_570 := n6_; clear n0_ n1_ n2_ n3_ n4_ n5_ n6_; clear hb hbox hg; have hnb23 := NB571_570.out; have hnc23 := NB570_571.out; obtain ⟨hcz24_0, hcz24_1⟩ := blk_cells2 BK571.out; obtain ⟨hfz24_0, hfz24_1⟩ := blk_frozens2 BK571.out) | ((with_reducible refine gate_callee (f := 38) rfl ?_); refine goesL_ (some 7) rfl rfl Try.func38 (by kernel_rfl) rfl #[.agg #[.int .i64 a1_0, .int .i64 a1_1]] rfl (by (try simp only [List.map_toArray, List.map_cons, List.map_nil]); first | done | rfl | (simp only [List.length_drop, List.length_take]; rfl)) ?_; (with_reducible refine (colloquyref09_good.calls a1_0 a1_1 false _ A3.out).mono ?_); rintro e w25 ⟨rfl, hb⟩; refine ⟨_, rfl, ?_⟩; have n0_ := Aside0.mk (blk_below (g := gb570) (bk BK570) hb); have n1_ := Aside0.mk (blk_below (g := gb571) (bk BK571) hb); have n2_ := Aside0.mk (below_step (gw_ HB) hb); clear BK570; clear BK571; clear HB; have BK570 := n0_; have BK571 := n1_; have HB := n2_; clear n0_ n1_ n2_; (try clear hb); (try clear hb2); (try clear hk); (try clear hi)))
  go_ret
  exact ⟨by first | rfl | (simp [errW_none, errW_some] <;> rfl) | (simp [*, errW_none, errW_some] <;> rfl), gw_ HB⟩

def colloquyref09_Promise.f (k : Nat) (a0_0 : Int) (a0_1 : Int) (a0_2 : Int) (a0_3 : Int) (a0_4 : Int) (a0_5 : Int) (a0_6 : Int) (a0_7 : Int) (a0_8 : Int) (a0_9 : Int) (a0_10 : ByteArray) (a0_11 : Int) (l0_12 : List Int) (a1_0 : Int) (a1_1 : Int) : Option (Int × Int × Int × Int × Int × Int × Int × Int × Int × Int × ByteArray × Int × List Int × Bool) := (colloquyref09_late.f k a0_0 a0_1 a0_2 a0_3 a0_4 a0_5 a0_6 a0_7 a0_8 a0_9 a0_10 a0_11 l0_12 a1_0 a1_1).bind fun t577 => (if t577 = true then (some (a0_0, a0_1, a0_2, a0_3, a0_4, a0_5, a0_6, a0_7, a0_8, a0_9, a0_10, a0_11, l0_12, false)) else (some (a0_0, a1_0, a1_1, a0_3, a0_4, a0_5, a0_6, a0_7, a0_8, a0_9, a0_10, a0_11, l0_12, true)))
set_option maxHeartbeats 8000000 in
set_option maxRecDepth 100000 in
theorem colloquyref09_Promise.calls (k : Nat) (a0_0 : Int) (a0_1 : Int) (a0_2 : Int) (a0_3 : Int) (a0_4 : Int) (a0_5 : Int) (a0_6 : Int) (a0_7 : Int) (a0_8 : Int) (a0_9 : Int) (a0_10 : ByteArray) (a0_11 : Int) (P0_12_ : Nat → Prop) (A0_12 : Option Addr) (c0_12 : Nat) (l0_12 : List Int) (a1_0 : Int) (a1_1 : Int) (r1 : Int) (r2 : Int) (r3 : Int) (r4 : Int) (r5 : Int) (r6 : Int) (r7 : Int) (r8 : Int) (r9 : Int) (r10 : Int) (r11 : ByteArray) (r12 : Int) (r13 : List Int) (r14 : Bool) (w : World) (hs0_12 : Kd.V (Kd.int .i64) 3 w w.heap.size (fun k_ => P0_12_ k_) (.slice A0_12 l0_12.length c0_12) l0_12) (h : colloquyref09_Promise.f k a0_0 a0_1 a0_2 a0_3 a0_4 a0_5 a0_6 a0_7 a0_8 a0_9 a0_10 a0_11 l0_12 a1_0 a1_1 = some (r1, r2, r3, r4, r5, r6, r7, r8, r9, r10, r11, r12, r13, r14)) :
  Calls Try.prog 25 #[.agg #[.int .i64 a0_0, .int .i64 a0_1, .int .i64 a0_2, .int .i64 a0_3, .int .i64 a0_4, .int .i64 a0_5, .int .i64 a0_6, .int .i64 a0_7, .int .i64 a0_8, .int .i64 a0_9, .string a0_10, .int .i64 a0_11, .slice A0_12 l0_12.length c0_12], .agg #[.int .i64 a1_0, .int .i64 a1_1]] w fun e w' => ∃ v12_ : Value, e = .returned (.tuple #[.agg #[.int .i64 r1, .int .i64 r2, .int .i64 r3, .int .i64 r4, .int .i64 r5, .int .i64 r6, .int .i64 r7, .int .i64 r8, .int .i64 r9, .int .i64 r10, .string r11, .int .i64 r12, v12_], .bool r14]) ∧ Kd.V (Kd.int .i64) 3 w' w.heap.size (fun k_ => (P0_12_ k_ ∨ w.heap.size ≤ k_)) v12_ r13 ∧ Below w.heap.size w w' := by
 have hu32 := Try.underlying32
 have hu25 := Try.underlying25
 have HO0_12 := Aside0.mk (show Kd.V (Kd.int .i64) 3 w w.heap.size (fun k_ => (P0_12_ k_ ∨ w.heap.size ≤ k_)) (.slice A0_12 l0_12.length c0_12) l0_12 from Kd.V_mono hs0_12 (fun k_ hk => .inl hk))
 have HB := Aside0.mk (Below.refl w.heap.size w)
 have H : ((colloquyref09_late.f k a0_0 a0_1 a0_2 a0_3 a0_4 a0_5 a0_6 a0_7 a0_8 a0_9 a0_10 a0_11 l0_12 a1_0 a1_1).bind fun t577 => (if t577 = true then (some (a0_0, a0_1, a0_2, a0_3, a0_4, a0_5, a0_6, a0_7, a0_8, a0_9, a0_10, a0_11, l0_12, false)) else (some (a0_0, a1_0, a1_1, a0_3, a0_4, a0_5, a0_6, a0_7, a0_8, a0_9, a0_10, a0_11, l0_12, true)))) = some (r1, r2, r3, r4, r5, r6, r7, r8, r9, r10, r11, r12, r13, r14) := h
 clear h
 replace H := Option.bind_eq_some_iff.mp H
 obtain ⟨t577, A30, H⟩ := H
 replace H : (if t577 = true then (some (a0_0, a0_1, a0_2, a0_3, a0_4, a0_5, a0_6, a0_7, a0_8, a0_9, a0_10, a0_11, l0_12, false)) else (some (a0_0, a1_0, a1_1, a0_3, a0_4, a0_5, a0_6, a0_7, a0_8, a0_9, a0_10, a0_11, l0_12, true))) = some (r1, r2, r3, r4, r5, r6, r7, r8, r9, r10, r11, r12, r13, r14) := H
 have A3 := Aside0.mk A30
 clear A30
 by_cases c4 : t577 = true
 ·
  subst c4
  have H1 : (some (a0_0, a0_1, a0_2, a0_3, a0_4, a0_5, a0_6, a0_7, a0_8, a0_9, a0_10, a0_11, l0_12, false)) = some (r1, r2, r3, r4, r5, r6, r7, r8, r9, r10, r11, r12, r13, r14) := by rw [if_pos rfl] at H; exact H
  clear H
  have H := H1
  clear H1
  simp only [Option.some.injEq, Prod.mk.injEq] at H
  obtain ⟨rfl, rfl, rfl, rfl, rfl, rfl, rfl, rfl, rfl, rfl, rfl, rfl, rfl, rfl⟩ := H
  go_enter Try.func25, Try.ntmps25
  go_wp2_with (first | ((with_reducible refine gate_dst (N := 2) rfl ?_); refine box_event ?hg (N := 2) ?hd (cs := #[.int .i64 a0_0, .int .i64 a0_1, .int .i64 a0_2, .int .i64 a0_3, .int .i64 a0_4, .int .i64 a0_5, .int .i64 a0_6, .int .i64 a0_7, .int .i64 a0_8, .int .i64 a0_9, .string a0_10, .int .i64 a0_11, .slice A0_12 l0_12.length c0_12]) (t := 32) ?hr ?_; (case hd => rfl); (case hg => rfl); (case hr => first | (go_simp; done) | (go_simp; rfl)); intro gb574 hg w5 hbox hb; have n0_ := Aside0.mk (Kd.V_below (Kd.V_elderB (Kd.vk HO0_12) gb574 (Nat.le_of_eq hg.symm)) hb); have s_ := step_size_ (gw_ HB) hb hg; have n1_ := Aside0.mk s_.1; have n2_ := Aside0.mk (hbox); have n3_ := Aside0.mk s_.2; clear s_; have n4_ := n3_; clear HO0_12; clear HB; have HO0_12 := n0_; have HB := n1_; have BK574 := n2_; have GW574 := n3_; have GE574 := n4_; clear n0_ n1_ n2_ n3_ n4_; clear hb hbox hg) | ((with_reducible refine gate_dst (N := 3) rfl ?_); refine box_event ?hg (N := 3) ?hd (cs := #[.int .i64 a1_0, .int .i64 a1_1]) (t := 25) ?hr ?_; (case hd => rfl); (case hg => rfl); (case hr => first | (go_simp; done) | (go_simp; rfl)); intro gb575 hg w6 hbox hb; have n0_ := Aside0.mk (Kd.V_below (Kd.V_elderB (Kd.vk HO0_12) gb575 (Nat.le_of_eq hg.symm)) hb); have n1_ := Aside0.mk (blk_below (g := gb574) (bk BK574) hb); have s_ := step_size_ (gw_ HB) hb hg; have n2_ := Aside0.mk s_.1; have n3_ := Aside0.mk (hbox); have n4_ := Aside0.mk s_.2; clear s_; have n5_ := n4_; have l_ := blk_lt_ (g := gb574) hg (bk BK574); have n6_ := Aside0.mk (Nat.ne_of_lt l_); have n7_ := Aside0.mk (Nat.ne_of_gt l_); clear l_; clear HO0_12; clear BK574; clear HB; have HO0_12 := n0_; have BK574 := n1_; have HB := n2_; have BK575 := n3_; have GW575 := n4_; have GE575 := n5_; have NB574_575 := n6_; have NB575_574 := n7_; clear n0_ n1_ n2_ n3_ n4_ n5_ n6_ n7_; clear hb hbox hg) | ((with_reducible refine gate_dst (N := 4) rfl ?_); refine box_event ?hg (N := 4) ?hd (cs := #[.int .i64 0, .int .i64 0, .int .i64 0, .int .i64 0, .int .i64 0, .int .i64 0, .int .i64 0, .int .i64 0, .int .i64 0, .int .i64 0, .string (⟨#[]⟩ : ByteArray), .int .i64 0, .slice none 0 0]) (t := 32) ?hr ?_; (case hd => rfl); (case hg => rfl); (case hr => first | (go_simp; done) | (go_simp; rfl)); intro gb576 hg w7 hbox hb; have n0_ := Aside0.mk (Kd.V_below (Kd.V_elderB (Kd.vk HO0_12) gb576 (Nat.le_of_eq hg.symm)) hb); have n1_ := Aside0.mk (blk_below (g := gb574) (bk BK574) hb); have n2_ := Aside0.mk (blk_below (g := gb575) (bk BK575) hb); have s_ := step_size_ (gw_ HB) hb hg; have n3_ := Aside0.mk s_.1; have n4_ := Aside0.mk (hbox); have n5_ := Aside0.mk s_.2; clear s_; have n6_ := n5_; have l_ := blk_lt_ (g := gb574) hg (bk BK574); have n7_ := Aside0.mk (Nat.ne_of_lt l_); have n8_ := Aside0.mk (Nat.ne_of_gt l_); clear l_; have l_ := blk_lt_ (g := gb575) hg (bk BK575); have n9_ := Aside0.mk (Nat.ne_of_lt l_); have n10_ := Aside0.mk (Nat.ne_of_gt l_); clear l_; clear HO0_12; clear BK574; clear BK575; clear HB; have HO0_12 := n0_; have BK574 := n1_; have BK575 := n2_; have HB := n3_; have BK576 := n4_; have GW576 := n5_; have GE576 := n6_; have NB574_576 := n7_; have NB576_574 := n8_; have NB575_576 := n9_; have NB576_575 := n10_; clear n0_ n1_ n2_ n3_ n4_ n5_ n6_ n7_ n8_ n9_ n10_; clear hb hbox hg; have hnb8 := NB574_575.out; have hnc8 := NB575_574.out; have hnb9 := NB574_576.out; have hnc9 := NB576_574.out; obtain ⟨hcz10_0, hcz10_1, hcz10_2, hcz10_3, hcz10_4, hcz10_5, hcz10_6, hcz10_7, hcz10_8, hcz10_9, hcz10_10, hcz10_11, hcz10_12⟩ := blk_cells13 BK574.out; obtain ⟨hfz10_0, hfz10_1, hfz10_2, hfz10_3, hfz10_4, hfz10_5, hfz10_6, hfz10_7, hfz10_8, hfz10_9, hfz10_10, hfz10_11, hfz10_12⟩ := blk_frozens13 BK574.out; have hnb11 := NB575_576.out; have hnc11 := NB576_575.out; obtain ⟨hcz12_0, hcz12_1⟩ := blk_cells2 BK575.out; obtain ⟨hfz12_0, hfz12_1⟩ := blk_frozens2 BK575.out) | ((with_reducible refine gate_callee (f := 44) rfl ?_); refine goesL_ (some 9) rfl rfl Try.func44 (by kernel_rfl) rfl #[.agg #[.int .i64 a0_0, .int .i64 a0_1, .int .i64 a0_2, .int .i64 a0_3, .int .i64 a0_4, .int .i64 a0_5, .int .i64 a0_6, .int .i64 a0_7, .int .i64 a0_8, .int .i64 a0_9, .string a0_10, .int .i64 a0_11, .slice A0_12 l0_12.length c0_12], .agg #[.int .i64 a1_0, .int .i64 a1_1]] rfl (by (try simp only [List.map_toArray, List.map_cons, List.map_nil]); first | done | rfl | (simp only [List.length_drop, List.length_take]; rfl)) ?_; (with_reducible refine (colloquyref09_late.calls k a0_0 a0_1 a0_2 a0_3 a0_4 a0_5 a0_6 a0_7 a0_8 a0_9 a0_10 a0_11 _ _ l0_12 a1_0 a1_1 true _ ?side1 ?side2 A3.out).mono ?_); (case side1 => repeat (first | exact (Kd.V_reads' HO0_12.out).2.2 | (with_reducible refine Kd.C_alloc ?_ _) | (with_reducible refine Kd.C_drewN ?_ _) | (with_reducible refine Kd.C_drew ?_))); (case side2 => exact (Kd.V_reads' HO0_12.out).2.1); rintro e w13 ⟨rfl, hb⟩; refine ⟨_, rfl, ?_⟩; have n0_ := Aside0.mk (Kd.V_below (Kd.vk HO0_12) hb); have n1_ := Aside0.mk (blk_below (g := gb574) (bk BK574) hb); have n2_ := Aside0.mk (blk_below (g := gb575) (bk BK575) hb); have n3_ := Aside0.mk (blk_below (g := gb576) (bk BK576) hb); have n4_ := Aside0.mk (below_step (gw_ HB) hb); clear HO0_12; clear BK574; clear BK575; clear BK576; clear HB; have HO0_12 := n0_; have BK574 := n1_; have BK575 := n2_; have BK576 := n3_; have HB := n4_; clear n0_ n1_ n2_ n3_ n4_; (try clear hb); (try clear hb2); (try clear hk); (try clear hi); obtain ⟨hcz14_0, hcz14_1, hcz14_2, hcz14_3, hcz14_4, hcz14_5, hcz14_6, hcz14_7, hcz14_8, hcz14_9, hcz14_10, hcz14_11, hcz14_12⟩ := blk_cells13 BK574.out; obtain ⟨hfz14_0, hfz14_1, hfz14_2, hfz14_3, hfz14_4, hfz14_5, hfz14_6, hfz14_7, hfz14_8, hfz14_9, hfz14_10, hfz14_11, hfz14_12⟩ := blk_frozens13 BK574.out; obtain ⟨hcz15_0, hcz15_1, hcz15_2, hcz15_3, hcz15_4, hcz15_5, hcz15_6, hcz15_7, hcz15_8, hcz15_9, hcz15_10, hcz15_11, hcz15_12⟩ := blk_cells13 BK576.out; have hfz15_0 := blk_frozen BK576.out 0; have hfz15_1 := blk_frozen BK576.out 1; have hfz15_2 := blk_frozen BK576.out 2; have hfz15_3 := blk_frozen BK576.out 3; have hfz15_4 := blk_frozen BK576.out 4; have hfz15_5 := blk_frozen BK576.out 5; have hfz15_6 := blk_frozen BK576.out 6; have hfz15_7 := blk_frozen BK576.out 7; have hfz15_8 := blk_frozen BK576.out 8; have hfz15_9 := blk_frozen BK576.out 9; have hfz15_10 := blk_frozen BK576.out 10; have hfz15_11 := blk_frozen BK576.out 11; have hfz15_12 := blk_frozen BK576.out 12))
  refine bodyPost_ret (results_ct rfl _ _ gb576 32 #[.int .i64 a0_0, .int .i64 a0_1, .int .i64 a0_2, .int .i64 a0_3, .int .i64 a0_4, .int .i64 a0_5, .int .i64 a0_6, .int .i64 a0_7, .int .i64 a0_8, .int .i64 a0_9, .string a0_10, .int .i64 a0_11, .slice A0_12 l0_12.length c0_12] (0, 0) _ rfl (by (with_reducible repeat (first | refine blk_drewN ?_ _ | refine blk_drew ?_ | refine blk_alloc ?_ _)); refine blk_put13 (cs := #[.int .i64 0, .int .i64 0, .int .i64 0, .int .i64 0, .int .i64 0, .int .i64 0, .int .i64 0, .int .i64 0, .int .i64 0, .int .i64 0, .string (⟨#[]⟩ : ByteArray), .int .i64 0, .slice none 0 0]) ?_ rfl; (with_reducible repeat (first | refine blk_drewN ?_ _ | refine blk_drew ?_ | refine blk_alloc ?_ _)); exact BK576.out) Try.underlying32 rfl (by kernel_rfl)) rfl ?_
  exact ⟨_, by first | rfl | (simp [errW_none, errW_some] <;> rfl) | (simp [*, errW_none, errW_some] <;> rfl), by (with_reducible repeat (first | apply Kd.V_alloc | apply Kd.V_drewN | apply Kd.V_drew)); exact Kd.V_mono (Kd.V_far (p := ⟨gb576, 12, none⟩) (Kd.V_far (p := ⟨gb576, 11, none⟩) (Kd.V_far (p := ⟨gb576, 10, none⟩) (Kd.V_far (p := ⟨gb576, 9, none⟩) (Kd.V_far (p := ⟨gb576, 8, none⟩) (Kd.V_far (p := ⟨gb576, 7, none⟩) (Kd.V_far (p := ⟨gb576, 6, none⟩) (Kd.V_far (p := ⟨gb576, 5, none⟩) (Kd.V_far (p := ⟨gb576, 4, none⟩) (Kd.V_far (p := ⟨gb576, 3, none⟩) (Kd.V_far (p := ⟨gb576, 2, none⟩) (Kd.V_far (p := ⟨gb576, 1, none⟩) (Kd.V_far (p := ⟨gb576, 0, none⟩) (Kd.V_mono HO0_12.out (fun k_ hk => (⟨hk, hk.2⟩ : _ ∧ k_ ≠ gb576))) (fun _ hk => hk.2) (.int .i64 a0_0)) (fun _ hk => hk.2) (.int .i64 a0_1)) (fun _ hk => hk.2) (.int .i64 a0_2)) (fun _ hk => hk.2) (.int .i64 a0_3)) (fun _ hk => hk.2) (.int .i64 a0_4)) (fun _ hk => hk.2) (.int .i64 a0_5)) (fun _ hk => hk.2) (.int .i64 a0_6)) (fun _ hk => hk.2) (.int .i64 a0_7)) (fun _ hk => hk.2) (.int .i64 a0_8)) (fun _ hk => hk.2) (.int .i64 a0_9)) (fun _ hk => hk.2) (.string a0_10)) (fun _ hk => hk.2) (.int .i64 a0_11)) (fun _ hk => hk.2) (.slice A0_12 l0_12.length c0_12)) (fun _ hk => hk.1.1.1.1), gw_ HB⟩
 ·
  replace c4 := Bool.eq_false_iff.mpr c4
  subst c4
  have H1 : (some (a0_0, a1_0, a1_1, a0_3, a0_4, a0_5, a0_6, a0_7, a0_8, a0_9, a0_10, a0_11, l0_12, true)) = some (r1, r2, r3, r4, r5, r6, r7, r8, r9, r10, r11, r12, r13, r14) := by rw [if_neg (show ¬ (false = true) by decide)] at H; exact H
  clear H
  have H := H1
  clear H1
  simp only [Option.some.injEq, Prod.mk.injEq] at H
  obtain ⟨rfl, rfl, rfl, rfl, rfl, rfl, rfl, rfl, rfl, rfl, rfl, rfl, rfl, rfl⟩ := H
  go_enter Try.func25, Try.ntmps25
  go_wp2_with (first | ((with_reducible refine gate_dst (N := 2) rfl ?_); refine box_event ?hg (N := 2) ?hd (cs := #[.int .i64 a0_0, .int .i64 a0_1, .int .i64 a0_2, .int .i64 a0_3, .int .i64 a0_4, .int .i64 a0_5, .int .i64 a0_6, .int .i64 a0_7, .int .i64 a0_8, .int .i64 a0_9, .string a0_10, .int .i64 a0_11, .slice A0_12 l0_12.length c0_12]) (t := 32) ?hr ?_; (case hd => rfl); (case hg => rfl); (case hr => first | (go_simp; done) | (go_simp; rfl)); intro gb574 hg w16 hbox hb; have n0_ := Aside0.mk (Kd.V_below (Kd.V_elderB (Kd.vk HO0_12) gb574 (Nat.le_of_eq hg.symm)) hb); have s_ := step_size_ (gw_ HB) hb hg; have n1_ := Aside0.mk s_.1; have n2_ := Aside0.mk (hbox); have n3_ := Aside0.mk s_.2; clear s_; have n4_ := n3_; clear HO0_12; clear HB; have HO0_12 := n0_; have HB := n1_; have BK574 := n2_; have GW574 := n3_; have GE574 := n4_; clear n0_ n1_ n2_ n3_ n4_; clear hb hbox hg) | ((with_reducible refine gate_dst (N := 3) rfl ?_); refine box_event ?hg (N := 3) ?hd (cs := #[.int .i64 a1_0, .int .i64 a1_1]) (t := 25) ?hr ?_; (case hd => rfl); (case hg => rfl); (case hr => first | (go_simp; done) | (go_simp; rfl)); intro gb575 hg w17 hbox hb; have n0_ := Aside0.mk (Kd.V_below (Kd.V_elderB (Kd.vk HO0_12) gb575 (Nat.le_of_eq hg.symm)) hb); have n1_ := Aside0.mk (blk_below (g := gb574) (bk BK574) hb); have s_ := step_size_ (gw_ HB) hb hg; have n2_ := Aside0.mk s_.1; have n3_ := Aside0.mk (hbox); have n4_ := Aside0.mk s_.2; clear s_; have n5_ := n4_; have l_ := blk_lt_ (g := gb574) hg (bk BK574); have n6_ := Aside0.mk (Nat.ne_of_lt l_); have n7_ := Aside0.mk (Nat.ne_of_gt l_); clear l_; clear HO0_12; clear BK574; clear HB; have HO0_12 := n0_; have BK574 := n1_; have HB := n2_; have BK575 := n3_; have GW575 := n4_; have GE575 := n5_; have NB574_575 := n6_; have NB575_574 := n7_; clear n0_ n1_ n2_ n3_ n4_ n5_ n6_ n7_; clear hb hbox hg) | ((with_reducible refine gate_dst (N := 4) rfl ?_); refine box_event ?hg (N := 4) ?hd (cs := #[.int .i64 0, .int .i64 0, .int .i64 0, .int .i64 0, .int .i64 0, .int .i64 0, .int .i64 0, .int .i64 0, .int .i64 0, .int .i64 0, .string (⟨#[]⟩ : ByteArray), .int .i64 0, .slice none 0 0]) (t := 32) ?hr ?_; (case hd => rfl); (case hg => rfl); (case hr => first | (go_simp; done) | (go_simp; rfl)); intro gb576 hg w18 hbox hb; have n0_ := Aside0.mk (Kd.V_below (Kd.V_elderB (Kd.vk HO0_12) gb576 (Nat.le_of_eq hg.symm)) hb); have n1_ := Aside0.mk (blk_below (g := gb574) (bk BK574) hb); have n2_ := Aside0.mk (blk_below (g := gb575) (bk BK575) hb); have s_ := step_size_ (gw_ HB) hb hg; have n3_ := Aside0.mk s_.1; have n4_ := Aside0.mk (hbox); have n5_ := Aside0.mk s_.2; clear s_; have n6_ := n5_; have l_ := blk_lt_ (g := gb574) hg (bk BK574); have n7_ := Aside0.mk (Nat.ne_of_lt l_); have n8_ := Aside0.mk (Nat.ne_of_gt l_); clear l_; have l_ := blk_lt_ (g := gb575) hg (bk BK575); have n9_ := Aside0.mk (Nat.ne_of_lt l_); have n10_ := Aside0.mk (Nat.ne_of_gt l_); clear l_; clear HO0_12; clear BK574; clear BK575; clear HB; have HO0_12 := n0_; have BK574 := n1_; have BK575 := n2_; have HB := n3_; have BK576 := n4_; have GW576 := n5_; have GE576 := n6_; have NB574_576 := n7_; have NB576_574 := n8_; have NB575_576 := n9_; have NB576_575 := n10_; clear n0_ n1_ n2_ n3_ n4_ n5_ n6_ n7_ n8_ n9_ n10_; clear hb hbox hg; have hnb19 := NB574_575.out; have hnc19 := NB575_574.out; have hnb20 := NB574_576.out; have hnc20 := NB576_574.out; obtain ⟨hcz21_0, hcz21_1, hcz21_2, hcz21_3, hcz21_4, hcz21_5, hcz21_6, hcz21_7, hcz21_8, hcz21_9, hcz21_10, hcz21_11, hcz21_12⟩ := blk_cells13 BK574.out; obtain ⟨hfz21_0, hfz21_1, hfz21_2, hfz21_3, hfz21_4, hfz21_5, hfz21_6, hfz21_7, hfz21_8, hfz21_9, hfz21_10, hfz21_11, hfz21_12⟩ := blk_frozens13 BK574.out; have hnb22 := NB575_576.out; have hnc22 := NB576_575.out; obtain ⟨hcz23_0, hcz23_1⟩ := blk_cells2 BK575.out; obtain ⟨hfz23_0, hfz23_1⟩ := blk_frozens2 BK575.out) | ((with_reducible refine gate_callee (f := 44) rfl ?_); refine goesL_ (some 9) rfl rfl Try.func44 (by kernel_rfl) rfl #[.agg #[.int .i64 a0_0, .int .i64 a0_1, .int .i64 a0_2, .int .i64 a0_3, .int .i64 a0_4, .int .i64 a0_5, .int .i64 a0_6, .int .i64 a0_7, .int .i64 a0_8, .int .i64 a0_9, .string a0_10, .int .i64 a0_11, .slice A0_12 l0_12.length c0_12], .agg #[.int .i64 a1_0, .int .i64 a1_1]] rfl (by (try simp only [List.map_toArray, List.map_cons, List.map_nil]); first | done | rfl | (simp only [List.length_drop, List.length_take]; rfl)) ?_; (with_reducible refine (colloquyref09_late.calls k a0_0 a0_1 a0_2 a0_3 a0_4 a0_5 a0_6 a0_7 a0_8 a0_9 a0_10 a0_11 _ _ l0_12 a1_0 a1_1 false _ ?side1 ?side2 A3.out).mono ?_); (case side1 => repeat (first | exact (Kd.V_reads' HO0_12.out).2.2 | (with_reducible refine Kd.C_alloc ?_ _) | (with_reducible refine Kd.C_drewN ?_ _) | (with_reducible refine Kd.C_drew ?_))); (case side2 => exact (Kd.V_reads' HO0_12.out).2.1); rintro e w24 ⟨rfl, hb⟩; refine ⟨_, rfl, ?_⟩; have n0_ := Aside0.mk (Kd.V_below (Kd.vk HO0_12) hb); have n1_ := Aside0.mk (blk_below (g := gb574) (bk BK574) hb); have n2_ := Aside0.mk (blk_below (g := gb575) (bk BK575) hb); have n3_ := Aside0.mk (blk_below (g := gb576) (bk BK576) hb); have n4_ := Aside0.mk (below_step (gw_ HB) hb); clear HO0_12; clear BK574; clear BK575; clear BK576; clear HB; have HO0_12 := n0_; have BK574 := n1_; have BK575 := n2_; have BK576 := n3_; have HB := n4_; clear n0_ n1_ n2_ n3_ n4_; (try clear hb); (try clear hb2); (try clear hk); (try clear hi); obtain ⟨hcz25_0, hcz25_1⟩ := blk_cells2 BK575.out; obtain ⟨hfz25_0, hfz25_1⟩ := blk_frozens2 BK575.out; obtain ⟨hcz26_0, hcz26_1, hcz26_2, hcz26_3, hcz26_4, hcz26_5, hcz26_6, hcz26_7, hcz26_8, hcz26_9, hcz26_10, hcz26_11, hcz26_12⟩ := blk_cells13 BK574.out; obtain ⟨hfz26_0, hfz26_1, hfz26_2, hfz26_3, hfz26_4, hfz26_5, hfz26_6, hfz26_7, hfz26_8, hfz26_9, hfz26_10, hfz26_11, hfz26_12⟩ := blk_frozens13 BK574.out; obtain ⟨hcz27_0, hcz27_1, hcz27_2, hcz27_3, hcz27_4, hcz27_5, hcz27_6, hcz27_7, hcz27_8, hcz27_9, hcz27_10, hcz27_11, hcz27_12⟩ := blk_cells13 BK576.out; have hfz27_0 := blk_frozen BK576.out 0; have hfz27_1 := blk_frozen BK576.out 1; have hfz27_2 := blk_frozen BK576.out 2; have hfz27_3 := blk_frozen BK576.out 3; have hfz27_4 := blk_frozen BK576.out 4; have hfz27_5 := blk_frozen BK576.out 5; have hfz27_6 := blk_frozen BK576.out 6; have hfz27_7 := blk_frozen BK576.out 7; have hfz27_8 := blk_frozen BK576.out 8; have hfz27_9 := blk_frozen BK576.out 9; have hfz27_10 := blk_frozen BK576.out 10; have hfz27_11 := blk_frozen BK576.out 11; have hfz27_12 := blk_frozen BK576.out 12))
  refine bodyPost_ret (results_ct rfl _ _ gb576 32 #[.int .i64 a0_0, .int .i64 a1_0, .int .i64 a1_1, .int .i64 a0_3, .int .i64 a0_4, .int .i64 a0_5, .int .i64 a0_6, .int .i64 a0_7, .int .i64 a0_8, .int .i64 a0_9, .string a0_10, .int .i64 a0_11, .slice A0_12 l0_12.length c0_12] (0, 0) _ rfl (by (with_reducible repeat (first | refine blk_drewN ?_ _ | refine blk_drew ?_ | refine blk_alloc ?_ _)); refine blk_put13 (cs := #[.int .i64 0, .int .i64 0, .int .i64 0, .int .i64 0, .int .i64 0, .int .i64 0, .int .i64 0, .int .i64 0, .int .i64 0, .int .i64 0, .string (⟨#[]⟩ : ByteArray), .int .i64 0, .slice none 0 0]) ?_ rfl; (with_reducible repeat (first | refine blk_drewN ?_ _ | refine blk_drew ?_ | refine blk_alloc ?_ _)); refine blk_far ?_ NB576_574.out _; (with_reducible repeat (first | refine blk_drewN ?_ _ | refine blk_drew ?_ | refine blk_alloc ?_ _)); refine blk_far ?_ NB576_574.out _; (with_reducible repeat (first | refine blk_drewN ?_ _ | refine blk_drew ?_ | refine blk_alloc ?_ _)); exact BK576.out) Try.underlying32 rfl (by kernel_rfl)) rfl ?_
  exact ⟨_, by first | rfl | (simp [errW_none, errW_some] <;> rfl) | (simp [*, errW_none, errW_some] <;> rfl), by (with_reducible repeat (first | apply Kd.V_alloc | apply Kd.V_drewN | apply Kd.V_drew)); exact Kd.V_mono (Kd.V_far (p := ⟨gb576, 12, none⟩) (Kd.V_far (p := ⟨gb576, 11, none⟩) (Kd.V_far (p := ⟨gb576, 10, none⟩) (Kd.V_far (p := ⟨gb576, 9, none⟩) (Kd.V_far (p := ⟨gb576, 8, none⟩) (Kd.V_far (p := ⟨gb576, 7, none⟩) (Kd.V_far (p := ⟨gb576, 6, none⟩) (Kd.V_far (p := ⟨gb576, 5, none⟩) (Kd.V_far (p := ⟨gb576, 4, none⟩) (Kd.V_far (p := ⟨gb576, 3, none⟩) (Kd.V_far (p := ⟨gb576, 2, none⟩) (Kd.V_far (p := ⟨gb576, 1, none⟩) (Kd.V_far (p := ⟨gb576, 0, none⟩) (Kd.V_far (p := ⟨gb574, 2, none⟩) (Kd.V_far (p := ⟨gb574, 1, none⟩) (Kd.V_mono (Kd.V_mono HO0_12.out (fun k_ hk => (⟨hk, hk.1.1.2⟩ : _ ∧ k_ ≠ gb574))) (fun k_ hk => (⟨hk, hk.1.2⟩ : _ ∧ k_ ≠ gb576))) (fun _ hk => hk.1.2) (.int .i64 a1_0)) (fun _ hk => hk.1.2) (.int .i64 a1_1)) (fun _ hk => hk.2) (.int .i64 a0_0)) (fun _ hk => hk.2) (.int .i64 a1_0)) (fun _ hk => hk.2) (.int .i64 a1_1)) (fun _ hk => hk.2) (.int .i64 a0_3)) (fun _ hk => hk.2) (.int .i64 a0_4)) (fun _ hk => hk.2) (.int .i64 a0_5)) (fun _ hk => hk.2) (.int .i64 a0_6)) (fun _ hk => hk.2) (.int .i64 a0_7)) (fun _ hk => hk.2) (.int .i64 a0_8)) (fun _ hk => hk.2) (.int .i64 a0_9)) (fun _ hk => hk.2) (.string a0_10)) (fun _ hk => hk.2) (.int .i64 a0_11)) (fun _ hk => hk.2) (.slice A0_12 l0_12.length c0_12)) (fun _ hk => hk.1.1.1.1.1), gw_ HB⟩

def colloquyref09_PreAccept.j0 : Nat → Bool → Int → Int → Int → Int → Int → Int → Int → Int → Int → Int → ByteArray → Int → List Int → Int → Int → Int → Int → Int → Int → Int → ByteArray → Int → List Int → Option (Int × Int × Int × Int × Int × Int × Int × Int × Int × Int × ByteArray × Int × List Int × Bool)
 | 0, _, _, _, _, _, _, _, _, _, _, _, _, _, _, _, _, _, _, _, _, _, _, _, _ => none
 | k + 1, x25, x579000, x579001, x579002, x579003, x579004, x579005, x579006, x579007, x579008, x579009, x579010, x579011, x579012, x580000, x580001, x581000, x581001, x581002, x581003, x581004, x581005, x582000, x582001 => if x25 = true then (some (x579000, x579001, x579002, x579003, x579004, x579005, x579006, x579007, x579008, x579009, x579010, x579011, x579012, false)) else (if x579000 = 1 then (if (x579003 == x580000 && (x579004 == x580001)) = true then (some (x579000, x579001, x579002, x579003, x579004, x579005, x579006, x579007, x579008, x579009, x579010, x579011, x579012, true)) else (some (1, x580000, x580001, x580000, x580001, x581000, x581001, x581002, x581003, x581004, x581005, x582000, x582001, true))) else (some (1, x580000, x580001, x580000, x580001, x581000, x581001, x581002, x581003, x581004, x581005, x582000, x582001, true)))
def colloquyref09_PreAccept.f (k : Nat) (a0_0 : Int) (a0_1 : Int) (a0_2 : Int) (a0_3 : Int) (a0_4 : Int) (a0_5 : Int) (a0_6 : Int) (a0_7 : Int) (a0_8 : Int) (a0_9 : Int) (a0_10 : ByteArray) (a0_11 : Int) (l0_12 : List Int) (a1_0 : Int) (a1_1 : Int) (a2_0 : Int) (a2_1 : Int) (a2_2 : Int) (a2_3 : Int) (a2_4 : Int) (a2_5 : ByteArray) (a3_0 : Int) (l3_1 : List Int) : Option (Int × Int × Int × Int × Int × Int × Int × Int × Int × Int × ByteArray × Int × List Int × Bool) := (colloquyref09_late.f k a0_0 a0_1 a0_2 a0_3 a0_4 a0_5 a0_6 a0_7 a0_8 a0_9 a0_10 a0_11 l0_12 a1_0 a1_1).bind fun t583 => (if t583 = true then (colloquyref09_PreAccept.j0 k true a0_0 a0_1 a0_2 a0_3 a0_4 a0_5 a0_6 a0_7 a0_8 a0_9 a0_10 a0_11 l0_12 a1_0 a1_1 a2_0 a2_1 a2_2 a2_3 a2_4 a2_5 a3_0 l3_1) else (if a0_0 = 2 then (colloquyref09_PreAccept.j0 k (a0_3 == a1_0 && (a0_4 == a1_1)) a0_0 a0_1 a0_2 a0_3 a0_4 a0_5 a0_6 a0_7 a0_8 a0_9 a0_10 a0_11 l0_12 a1_0 a1_1 a2_0 a2_1 a2_2 a2_3 a2_4 a2_5 a3_0 l3_1) else (colloquyref09_PreAccept.j0 k false a0_0 a0_1 a0_2 a0_3 a0_4 a0_5 a0_6 a0_7 a0_8 a0_9 a0_10 a0_11 l0_12 a1_0 a1_1 a2_0 a2_1 a2_2 a2_3 a2_4 a2_5 a3_0 l3_1)))
set_option maxHeartbeats 8000000 in
set_option maxRecDepth 100000 in
theorem colloquyref09_PreAccept.calls (k : Nat) (a0_0 : Int) (a0_1 : Int) (a0_2 : Int) (a0_3 : Int) (a0_4 : Int) (a0_5 : Int) (a0_6 : Int) (a0_7 : Int) (a0_8 : Int) (a0_9 : Int) (a0_10 : ByteArray) (a0_11 : Int) (P0_12_ : Nat → Prop) (A0_12 : Option Addr) (c0_12 : Nat) (l0_12 : List Int) (a1_0 : Int) (a1_1 : Int) (a2_0 : Int) (a2_1 : Int) (a2_2 : Int) (a2_3 : Int) (a2_4 : Int) (a2_5 : ByteArray) (a3_0 : Int) (P3_1_ : Nat → Prop) (A3_1 : Option Addr) (c3_1 : Nat) (l3_1 : List Int) (r1 : Int) (r2 : Int) (r3 : Int) (r4 : Int) (r5 : Int) (r6 : Int) (r7 : Int) (r8 : Int) (r9 : Int) (r10 : Int) (r11 : ByteArray) (r12 : Int) (r13 : List Int) (r14 : Bool) (w : World) (hs0_12 : Kd.V (Kd.int .i64) 3 w w.heap.size (fun k_ => P0_12_ k_) (.slice A0_12 l0_12.length c0_12) l0_12) (hs3_1 : Kd.V (Kd.int .i64) 3 w w.heap.size (fun k_ => P3_1_ k_) (.slice A3_1 l3_1.length c3_1) l3_1) (h : colloquyref09_PreAccept.f k a0_0 a0_1 a0_2 a0_3 a0_4 a0_5 a0_6 a0_7 a0_8 a0_9 a0_10 a0_11 l0_12 a1_0 a1_1 a2_0 a2_1 a2_2 a2_3 a2_4 a2_5 a3_0 l3_1 = some (r1, r2, r3, r4, r5, r6, r7, r8, r9, r10, r11, r12, r13, r14)) :
  Calls Try.prog 26 #[.agg #[.int .i64 a0_0, .int .i64 a0_1, .int .i64 a0_2, .int .i64 a0_3, .int .i64 a0_4, .int .i64 a0_5, .int .i64 a0_6, .int .i64 a0_7, .int .i64 a0_8, .int .i64 a0_9, .string a0_10, .int .i64 a0_11, .slice A0_12 l0_12.length c0_12], .agg #[.int .i64 a1_0, .int .i64 a1_1], .agg #[.int .i64 a2_0, .int .i64 a2_1, .int .i64 a2_2, .int .i64 a2_3, .int .i64 a2_4, .string a2_5], .agg #[.int .i64 a3_0, .slice A3_1 l3_1.length c3_1]] w fun e w' => ∃ v12_ : Value, e = .returned (.tuple #[.agg #[.int .i64 r1, .int .i64 r2, .int .i64 r3, .int .i64 r4, .int .i64 r5, .int .i64 r6, .int .i64 r7, .int .i64 r8, .int .i64 r9, .int .i64 r10, .string r11, .int .i64 r12, v12_], .bool r14]) ∧ Kd.V (Kd.int .i64) 3 w' w.heap.size (fun k_ => ((P0_12_ k_ ∨ P3_1_ k_) ∨ w.heap.size ≤ k_)) v12_ r13 ∧ Below w.heap.size w w' := by
 have hu32 := Try.underlying32
 have hu25 := Try.underlying25
 have hu27 := Try.underlying27
 have hu30 := Try.underlying30
 have HO0_12 := Aside0.mk (show Kd.V (Kd.int .i64) 3 w w.heap.size (fun k_ => ((P0_12_ k_ ∨ P3_1_ k_) ∨ w.heap.size ≤ k_)) (.slice A0_12 l0_12.length c0_12) l0_12 from Kd.V_mono hs0_12 (fun k_ hk => .inl (.inl hk)))
 have HO3_1 := Aside0.mk (show Kd.V (Kd.int .i64) 3 w w.heap.size (fun k_ => ((P0_12_ k_ ∨ P3_1_ k_) ∨ w.heap.size ≤ k_)) (.slice A3_1 l3_1.length c3_1) l3_1 from Kd.V_mono hs3_1 (fun k_ hk => .inl (.inr hk)))
 have HB := Aside0.mk (Below.refl w.heap.size w)
 have H : ((colloquyref09_late.f k a0_0 a0_1 a0_2 a0_3 a0_4 a0_5 a0_6 a0_7 a0_8 a0_9 a0_10 a0_11 l0_12 a1_0 a1_1).bind fun t583 => (if t583 = true then (colloquyref09_PreAccept.j0 k true a0_0 a0_1 a0_2 a0_3 a0_4 a0_5 a0_6 a0_7 a0_8 a0_9 a0_10 a0_11 l0_12 a1_0 a1_1 a2_0 a2_1 a2_2 a2_3 a2_4 a2_5 a3_0 l3_1) else (if a0_0 = 2 then (colloquyref09_PreAccept.j0 k (a0_3 == a1_0 && (a0_4 == a1_1)) a0_0 a0_1 a0_2 a0_3 a0_4 a0_5 a0_6 a0_7 a0_8 a0_9 a0_10 a0_11 l0_12 a1_0 a1_1 a2_0 a2_1 a2_2 a2_3 a2_4 a2_5 a3_0 l3_1) else (colloquyref09_PreAccept.j0 k false a0_0 a0_1 a0_2 a0_3 a0_4 a0_5 a0_6 a0_7 a0_8 a0_9 a0_10 a0_11 l0_12 a1_0 a1_1 a2_0 a2_1 a2_2 a2_3 a2_4 a2_5 a3_0 l3_1)))) = some (r1, r2, r3, r4, r5, r6, r7, r8, r9, r10, r11, r12, r13, r14) := h
 clear h
 replace H := Option.bind_eq_some_iff.mp H
 obtain ⟨t583, A50, H⟩ := H
 replace H : (if t583 = true then (colloquyref09_PreAccept.j0 k true a0_0 a0_1 a0_2 a0_3 a0_4 a0_5 a0_6 a0_7 a0_8 a0_9 a0_10 a0_11 l0_12 a1_0 a1_1 a2_0 a2_1 a2_2 a2_3 a2_4 a2_5 a3_0 l3_1) else (if a0_0 = 2 then (colloquyref09_PreAccept.j0 k (a0_3 == a1_0 && (a0_4 == a1_1)) a0_0 a0_1 a0_2 a0_3 a0_4 a0_5 a0_6 a0_7 a0_8 a0_9 a0_10 a0_11 l0_12 a1_0 a1_1 a2_0 a2_1 a2_2 a2_3 a2_4 a2_5 a3_0 l3_1) else (colloquyref09_PreAccept.j0 k false a0_0 a0_1 a0_2 a0_3 a0_4 a0_5 a0_6 a0_7 a0_8 a0_9 a0_10 a0_11 l0_12 a1_0 a1_1 a2_0 a2_1 a2_2 a2_3 a2_4 a2_5 a3_0 l3_1))) = some (r1, r2, r3, r4, r5, r6, r7, r8, r9, r10, r11, r12, r13, r14) := H
 have A5 := Aside0.mk A50
 clear A50
 have HC6 := Aside0.mk H
 clear H
 go_enter Try.func26, Try.ntmps26
 go_upto_region 2 with (first | ((with_reducible refine gate_dst (N := 4) rfl ?_); refine box_event ?hg (N := 4) ?hd (cs := #[.int .i64 a0_0, .int .i64 a0_1, .int .i64 a0_2, .int .i64 a0_3, .int .i64 a0_4, .int .i64 a0_5, .int .i64 a0_6, .int .i64 a0_7, .int .i64 a0_8, .int .i64 a0_9, .string a0_10, .int .i64 a0_11, .slice A0_12 l0_12.length c0_12]) (t := 32) ?hr ?_; (case hd => rfl); (case hg => rfl); (case hr => first | (go_simp; done) | (go_simp; rfl)); intro gb578 hg w7 hbox hb; have n0_ := Aside0.mk (Kd.V_below (Kd.V_elderB (Kd.vk HO0_12) gb578 (Nat.le_of_eq hg.symm)) hb); have n1_ := Aside0.mk (Kd.V_below (Kd.V_elderB (Kd.vk HO3_1) gb578 (Nat.le_of_eq hg.symm)) hb); have s_ := step_size_ (gw_ HB) hb hg; have n2_ := Aside0.mk s_.1; have n3_ := Aside0.mk (hbox); have n4_ := Aside0.mk s_.2; clear s_; have n5_ := n4_; clear HO0_12; clear HO3_1; clear HB; have HO0_12 := n0_; have HO3_1 := n1_; have HB := n2_; have BK578 := n3_; have GW578 := n4_; have GE578 := n5_; clear n0_ n1_ n2_ n3_ n4_ n5_; clear hb hbox hg) | ((with_reducible refine gate_dst (N := 5) rfl ?_); refine box_event ?hg (N := 5) ?hd (cs := #[.int .i64 a1_0, .int .i64 a1_1]) (t := 25) ?hr ?_; (case hd => rfl); (case hg => rfl); (case hr => first | (go_simp; done) | (go_simp; rfl)); intro gb579 hg w8 hbox hb; have n0_ := Aside0.mk (Kd.V_below (Kd.V_elderB (Kd.vk HO0_12) gb579 (Nat.le_of_eq hg.symm)) hb); have n1_ := Aside0.mk (Kd.V_below (Kd.V_elderB (Kd.vk HO3_1) gb579 (Nat.le_of_eq hg.symm)) hb); have n2_ := Aside0.mk (blk_below (g := gb578) (bk BK578) hb); have s_ := step_size_ (gw_ HB) hb hg; have n3_ := Aside0.mk s_.1; have n4_ := Aside0.mk (hbox); have n5_ := Aside0.mk s_.2; clear s_; have n6_ := n5_; have l_ := blk_lt_ (g := gb578) hg (bk BK578); have n7_ := Aside0.mk (Nat.ne_of_lt l_); have n8_ := Aside0.mk (Nat.ne_of_gt l_); clear l_; clear HO0_12; clear HO3_1; clear BK578; clear HB; have HO0_12 := n0_; have HO3_1 := n1_; have BK578 := n2_; have HB := n3_; have BK579 := n4_; have GW579 := n5_; have GE579 := n6_; have NB578_579 := n7_; have NB579_578 := n8_; clear n0_ n1_ n2_ n3_ n4_ n5_ n6_ n7_ n8_; clear hb hbox hg) | ((with_reducible refine gate_dst (N := 6) rfl ?_); refine box_event ?hg (N := 6) ?hd (cs := #[.int .i64 a2_0, .int .i64 a2_1, .int .i64 a2_2, .int .i64 a2_3, .int .i64 a2_4, .string a2_5]) (t := 27) ?hr ?_; (case hd => rfl); (case hg => rfl); (case hr => first | (go_simp; done) | (go_simp; rfl)); intro gb580 hg w9 hbox hb; have n0_ := Aside0.mk (Kd.V_below (Kd.V_elderB (Kd.vk HO0_12) gb580 (Nat.le_of_eq hg.symm)) hb); have n1_ := Aside0.mk (Kd.V_below (Kd.V_elderB (Kd.vk HO3_1) gb580 (Nat.le_of_eq hg.symm)) hb); have n2_ := Aside0.mk (blk_below (g := gb578) (bk BK578) hb); have n3_ := Aside0.mk (blk_below (g := gb579) (bk BK579) hb); have s_ := step_size_ (gw_ HB) hb hg; have n4_ := Aside0.mk s_.1; have n5_ := Aside0.mk (hbox); have n6_ := Aside0.mk s_.2; clear s_; have n7_ := n6_; have l_ := blk_lt_ (g := gb578) hg (bk BK578); have n8_ := Aside0.mk (Nat.ne_of_lt l_); have n9_ := Aside0.mk (Nat.ne_of_gt l_); clear l_; have l_ := blk_lt_ (g := gb579) hg (bk BK579); have n10_ := Aside0.mk (Nat.ne_of_lt l_); have n11_ := Aside0.mk (Nat.ne_of_gt l_); clear l_; clear HO0_12; clear HO3_1; clear BK578; clear BK579; clear HB; have HO0_12 := n0_; have HO3_1 := n1_; have BK578 := n2_; have BK579 := n3_; have HB := n4_; have BK580 := n5_; have GW580 := n6_; have GE580 := n7_; have NB578_580 := n8_; have NB580_578 := n9_; have NB579_580 := n10_; have NB580_579 := n11_; clear n0_ n1_ n2_ n3_ n4_ n5_ n6_ n7_ n8_ n9_ n10_ n11_; clear hb hbox hg) | ((with_reducible refine gate_dst (N := 7) rfl ?_); refine box_event ?hg (N := 7) ?hd (cs := #[.int .i64 a3_0, .slice A3_1 l3_1.length c3_1]) (t := 30) ?hr ?_; (case hd => rfl); (case hg => rfl); (case hr => first | (go_simp; done) | (go_simp; rfl)); intro gb581 hg w10 hbox hb; have n0_ := Aside0.mk (Kd.V_below (Kd.V_elderB (Kd.vk HO0_12) gb581 (Nat.le_of_eq hg.symm)) hb); have n1_ := Aside0.mk (Kd.V_below (Kd.V_elderB (Kd.vk HO3_1) gb581 (Nat.le_of_eq hg.symm)) hb); have n2_ := Aside0.mk (blk_below (g := gb578) (bk BK578) hb); have n3_ := Aside0.mk (blk_below (g := gb579) (bk BK579) hb); have n4_ := Aside0.mk (blk_below (g := gb580) (bk BK580) hb); have s_ := step_size_ (gw_ HB) hb hg; have n5_ := Aside0.mk s_.1; have n6_ := Aside0.mk (hbox); have n7_ := Aside0.mk s_.2; clear s_; have n8_ := n7_; have l_ := blk_lt_ (g := gb578) hg (bk BK578); have n9_ := Aside0.mk (Nat.ne_of_lt l_); have n10_ := Aside0.mk (Nat.ne_of_gt l_); clear l_; have l_ := blk_lt_ (g := gb579) hg (bk BK579); have n11_ := Aside0.mk (Nat.ne_of_lt l_); have n12_ := Aside0.mk (Nat.ne_of_gt l_); clear l_; have l_ := blk_lt_ (g := gb580) hg (bk BK580); have n13_ := Aside0.mk (Nat.ne_of_lt l_); have n14_ := Aside0.mk (Nat.ne_of_gt l_); clear l_; clear HO0_12; clear HO3_1; clear BK578; clear BK579; clear BK580; clear HB; have HO0_12 := n0_; have HO3_1 := n1_; have BK578 := n2_; have BK579 := n3_; have BK580 := n4_; have HB := n5_; have BK581 := n6_; have GW581 := n7_; have GE581 := n8_; have NB578_581 := n9_; have NB581_578 := n10_; have NB579_581 := n11_; have NB581_579 := n12_; have NB580_581 := n13_; have NB581_580 := n14_; clear n0_ n1_ n2_ n3_ n4_ n5_ n6_ n7_ n8_ n9_ n10_ n11_ n12_ n13_ n14_; clear hb hbox hg) | ((with_reducible refine gate_dst (N := 8) rfl ?_); refine box_event ?hg (N := 8) ?hd (cs := #[.int .i64 0, .int .i64 0, .int .i64 0, .int .i64 0, .int .i64 0, .int .i64 0, .int .i64 0, .int .i64 0, .int .i64 0, .int .i64 0, .string (⟨#[]⟩ : ByteArray), .int .i64 0, .slice none 0 0]) (t := 32) ?hr ?_; (case hd => rfl); (case hg => rfl); (case hr => first | (go_simp; done) | (go_simp; rfl)); intro gb582 hg w11 hbox hb; have n0_ := Aside0.mk (Kd.V_below (Kd.V_elderB (Kd.vk HO0_12) gb582 (Nat.le_of_eq hg.symm)) hb); have n1_ := Aside0.mk (Kd.V_below (Kd.V_elderB (Kd.vk HO3_1) gb582 (Nat.le_of_eq hg.symm)) hb); have n2_ := Aside0.mk (blk_below (g := gb578) (bk BK578) hb); have n3_ := Aside0.mk (blk_below (g := gb579) (bk BK579) hb); have n4_ := Aside0.mk (blk_below (g := gb580) (bk BK580) hb); have n5_ := Aside0.mk (blk_below (g := gb581) (bk BK581) hb); have s_ := step_size_ (gw_ HB) hb hg; have n6_ := Aside0.mk s_.1; have n7_ := Aside0.mk (hbox); have n8_ := Aside0.mk s_.2; clear s_; have n9_ := n8_; have l_ := blk_lt_ (g := gb578) hg (bk BK578); have n10_ := Aside0.mk (Nat.ne_of_lt l_); have n11_ := Aside0.mk (Nat.ne_of_gt l_); clear l_; have l_ := blk_lt_ (g := gb579) hg (bk BK579); have n12_ := Aside0.mk (Nat.ne_of_lt l_); have n13_ := Aside0.mk (Nat.ne_of_gt l_); clear l_; have l_ := blk_lt_ (g := gb580) hg (bk BK580); have n14_ := Aside0.mk (Nat.ne_of_lt l_); have n15_ := Aside0.mk (Nat.ne_of_gt l_); clear l_; have l_ := blk_lt_ (g := gb581) hg (bk BK581); have n16_ := Aside0.mk (Nat.ne_of_lt l_); have n17_ := Aside0.mk (Nat.ne_of_gt l_); clear l_; clear HO0_12; clear HO3_1; clear BK578; clear BK579; clear BK580; clear BK581; clear HB; have HO0_12 := n0_; have HO3_1 := n1_; have BK578 := n2_; have BK579 := n3_; have BK580 := n4_; have BK581 := n5_; have HB := n6_; have BK582 := n7_; have GW582 := n8_; have GE582 := n9_; have NB578_582 := n10_; have NB582_578 := n11_; have NB579_582 := n12_; have NB582_579 := n13_; have NB580_582 := n14_; have NB582_580 := n15_; have NB581_582 := n16_; have NB582_581 := n17_; clear n0_ n1_ n2_ n3_ n4_ n5_ n6_ n7_ n8_ n9_ n10_ n11_ n12_ n13_ n14_ n15_ n16_ n17_; clear hb hbox hg; have hnb12 := NB578_579.out; have hnc12 := NB579_578.out; have hnb13 := NB578_580.out; have hnc13 := NB580_578.out; have hnb14 := NB578_581.out; have hnc14 := NB581_578.out; have hnb15 := NB578_582.out; have hnc15 := NB582_578.out; obtain ⟨hcz16_0, hcz16_1, hcz16_2, hcz16_3, hcz16_4, hcz16_5, hcz16_6, hcz16_7, hcz16_8, hcz16_9, hcz16_10, hcz16_11, hcz16_12⟩ := blk_cells13 BK578.out; obtain ⟨hfz16_0, hfz16_1, hfz16_2, hfz16_3, hfz16_4, hfz16_5, hfz16_6, hfz16_7, hfz16_8, hfz16_9, hfz16_10, hfz16_11, hfz16_12⟩ := blk_frozens13 BK578.out; have hnb17 := NB579_580.out; have hnc17 := NB580_579.out; have hnb18 := NB579_581.out; have hnc18 := NB581_579.out; have hnb19 := NB579_582.out; have hnc19 := NB582_579.out; obtain ⟨hcz20_0, hcz20_1⟩ := blk_cells2 BK579.out; obtain ⟨hfz20_0, hfz20_1⟩ := blk_frozens2 BK579.out) | ((with_reducible refine gate_callee (f := 44) rfl ?_); refine goesL_ (some 13) rfl rfl Try.func44 (by kernel_rfl) rfl #[.agg #[.int .i64 a0_0, .int .i64 a0_1, .int .i64 a0_2, .int .i64 a0_3, .int .i64 a0_4, .int .i64 a0_5, .int .i64 a0_6, .int .i64 a0_7, .int .i64 a0_8, .int .i64 a0_9, .string a0_10, .int .i64 a0_11, .slice A0_12 l0_12.length c0_12], .agg #[.int .i64 a1_0, .int .i64 a1_1]] rfl (by (try simp only [List.map_toArray, List.map_cons, List.map_nil]); first | done | rfl | (simp only [List.length_drop, List.length_take]; rfl)) ?_; (with_reducible refine (colloquyref09_late.calls k a0_0 a0_1 a0_2 a0_3 a0_4 a0_5 a0_6 a0_7 a0_8 a0_9 a0_10 a0_11 _ _ l0_12 a1_0 a1_1 t583 _ ?side1 ?side2 A5.out).mono ?_); (case side1 => repeat (first | exact (Kd.V_reads' HO0_12.out).2.2 | (with_reducible refine Kd.C_alloc ?_ _) | (with_reducible refine Kd.C_drewN ?_ _) | (with_reducible refine Kd.C_drew ?_))); (case side2 => exact (Kd.V_reads' HO0_12.out).2.1); rintro e w21 ⟨rfl, hb⟩; refine ⟨_, rfl, ?_⟩; have n0_ := Aside0.mk (Kd.V_below (Kd.vk HO0_12) hb); have n1_ := Aside0.mk (Kd.V_below (Kd.vk HO3_1) hb); have n2_ := Aside0.mk (blk_below (g := gb578) (bk BK578) hb); have n3_ := Aside0.mk (blk_below (g := gb579) (bk BK579) hb); have n4_ := Aside0.mk (blk_below (g := gb580) (bk BK580) hb); have n5_ := Aside0.mk (blk_below (g := gb581) (bk BK581) hb); have n6_ := Aside0.mk (blk_below (g := gb582) (bk BK582) hb); have n7_ := Aside0.mk (below_step (gw_ HB) hb); clear HO0_12; clear HO3_1; clear BK578; clear BK579; clear BK580; clear BK581; clear BK582; clear HB; have HO0_12 := n0_; have HO3_1 := n1_; have BK578 := n2_; have BK579 := n3_; have BK580 := n4_; have BK581 := n5_; have BK582 := n6_; have HB := n7_; clear n0_ n1_ n2_ n3_ n4_ n5_ n6_ n7_; (try clear hb); (try clear hb2); (try clear hk); (try clear hi)))
 (try simp only [Act.put, List.setIfInBounds_toArray, List.set_cons_zero, List.set_cons_succ])
 go_cut [25] (fun v25 wc => ∃ (kq : Nat) (x25_5 : Bool), v25 = .bool x25_5 ∧ Aside0 (colloquyref09_PreAccept.j0 kq x25_5 a0_0 a0_1 a0_2 a0_3 a0_4 a0_5 a0_6 a0_7 a0_8 a0_9 a0_10 a0_11 l0_12 a1_0 a1_1 a2_0 a2_1 a2_2 a2_3 a2_4 a2_5 a3_0 l3_1 = some (r1, r2, r3, r4, r5, r6, r7, r8, r9, r10, r11, r12, r13, r14)) ∧ Aside0 (kq ≤ k) ∧ Aside0 (Kd.V (Kd.int .i64) 3 wc w.heap.size (fun k_ => ((P0_12_ k_ ∨ P3_1_ k_) ∨ w.heap.size ≤ k_) ∧ k_ ≠ gb578 ∧ k_ ≠ gb579 ∧ k_ ≠ gb580 ∧ k_ ≠ gb581 ∧ k_ ≠ gb582) (.slice A0_12 l0_12.length c0_12) l0_12) ∧ Aside0 (Kd.V (Kd.int .i64) 3 wc w.heap.size (fun k_ => ((P0_12_ k_ ∨ P3_1_ k_) ∨ w.heap.size ≤ k_) ∧ k_ ≠ gb578 ∧ k_ ≠ gb579 ∧ k_ ≠ gb580 ∧ k_ ≠ gb581 ∧ k_ ≠ gb582) (.slice A3_1 l3_1.length c3_1) l3_1) ∧ Aside0 (wc.heap[gb578]? = some (.cells #[.int .i64 a0_0, .int .i64 a0_1, .int .i64 a0_2, .int .i64 a0_3, .int .i64 a0_4, .int .i64 a0_5, .int .i64 a0_6, .int .i64 a0_7, .int .i64 a0_8, .int .i64 a0_9, .string a0_10, .int .i64 a0_11, (.slice A0_12 l0_12.length c0_12)] 32 (0, 0))) ∧ Aside0 (wc.heap[gb579]? = some (.cells #[.int .i64 a1_0, .int .i64 a1_1] 25 (0, 0))) ∧ Aside0 (wc.heap[gb580]? = some (.cells #[.int .i64 a2_0, .int .i64 a2_1, .int .i64 a2_2, .int .i64 a2_3, .int .i64 a2_4, .string a2_5] 27 (0, 0))) ∧ Aside0 (wc.heap[gb581]? = some (.cells #[.int .i64 a3_0, (.slice A3_1 l3_1.length c3_1)] 30 (0, 0))) ∧ Aside0 (wc.heap[gb582]? = some (.cells #[.int .i64 0, .int .i64 0, .int .i64 0, .int .i64 0, .int .i64 0, .int .i64 0, .int .i64 0, .int .i64 0, .int .i64 0, .int .i64 0, .string (⟨#[]⟩ : ByteArray), .int .i64 0, (.slice none 0 0)] 32 (0, 0))) ∧ Aside0 (Below w.heap.size w wc))
 case first =>
  have H := HC6.out
  clear HC6
  by_cases c22 : t583 = true
  ·
   subst c22
   have H1 : (colloquyref09_PreAccept.j0 k true a0_0 a0_1 a0_2 a0_3 a0_4 a0_5 a0_6 a0_7 a0_8 a0_9 a0_10 a0_11 l0_12 a1_0 a1_1 a2_0 a2_1 a2_2 a2_3 a2_4 a2_5 a3_0 l3_1) = some (r1, r2, r3, r4, r5, r6, r7, r8, r9, r10, r11, r12, r13, r14) := by rw [if_pos rfl] at H; exact H
   clear H
   have H := H1
   clear H1
   have H' := Aside0.mk H
   clear H
   go_wp2
   go_meet
   case rel => exact ⟨_, (true), (by first | rfl | (simp; done) | (simp [*]; done)), H', ⟨by first | omega | exact Nat.le_refl _⟩, ⟨by (with_reducible repeat (first | apply Kd.V_alloc | apply Kd.V_drewN | apply Kd.V_drew)); exact Kd.V_mono HO0_12.out (fun _ hk => ⟨hk.1.1.1.1.1, ⟨hk.1.1.1.1.2, ⟨hk.1.1.1.2, ⟨hk.1.1.2, ⟨hk.1.2, hk.2⟩⟩⟩⟩⟩)⟩, ⟨by (with_reducible repeat (first | apply Kd.V_alloc | apply Kd.V_drewN | apply Kd.V_drew)); exact Kd.V_mono HO3_1.out (fun _ hk => ⟨hk.1.1.1.1.1, ⟨hk.1.1.1.1.2, ⟨hk.1.1.1.2, ⟨hk.1.1.2, ⟨hk.1.2, hk.2⟩⟩⟩⟩⟩)⟩, ⟨by (with_reducible repeat (first | refine blk_drewN ?_ _ | refine blk_drew ?_ | refine blk_alloc ?_ _)); exact BK578.out⟩, ⟨by (with_reducible repeat (first | refine blk_drewN ?_ _ | refine blk_drew ?_ | refine blk_alloc ?_ _)); exact BK579.out⟩, ⟨by (with_reducible repeat (first | refine blk_drewN ?_ _ | refine blk_drew ?_ | refine blk_alloc ?_ _)); exact BK580.out⟩, ⟨by (with_reducible repeat (first | refine blk_drewN ?_ _ | refine blk_drew ?_ | refine blk_alloc ?_ _)); exact BK581.out⟩, ⟨by (with_reducible repeat (first | refine blk_drewN ?_ _ | refine blk_drew ?_ | refine blk_alloc ?_ _)); exact BK582.out⟩, ⟨gw_ HB⟩⟩
  ·
   replace c22 := Bool.eq_false_iff.mpr c22
   subst c22
   have H1 : (if a0_0 = 2 then (colloquyref09_PreAccept.j0 k (a0_3 == a1_0 && (a0_4 == a1_1)) a0_0 a0_1 a0_2 a0_3 a0_4 a0_5 a0_6 a0_7 a0_8 a0_9 a0_10 a0_11 l0_12 a1_0 a1_1 a2_0 a2_1 a2_2 a2_3 a2_4 a2_5 a3_0 l3_1) else (colloquyref09_PreAccept.j0 k false a0_0 a0_1 a0_2 a0_3 a0_4 a0_5 a0_6 a0_7 a0_8 a0_9 a0_10 a0_11 l0_12 a1_0 a1_1 a2_0 a2_1 a2_2 a2_3 a2_4 a2_5 a3_0 l3_1)) = some (r1, r2, r3, r4, r5, r6, r7, r8, r9, r10, r11, r12, r13, r14) := by rw [if_neg (show ¬ (false = true) by decide)] at H; exact H
   clear H
   have H := H1
   clear H1
   by_cases c23 : a0_0 = 2
   ·
    rw [if_pos c23] at H
    have c23b0 : (a0_0 == 2) = true := beq_iff_eq.mpr c23
    have c23b1 : (a0_0 != 2) = false := bne_eq_false_iff_eq.mpr c23
    clear c23
    (first | rw [c23b0] | (simp only [i64_w, i32_w]; rw [c23b0]) | skip)
    have H' := Aside0.mk H
    clear H
    have hnb24 := NB578_579.out
    have hnc24 := NB579_578.out
    have hnb25 := NB578_580.out
    have hnc25 := NB580_578.out
    have hnb26 := NB578_581.out
    have hnc26 := NB581_578.out
    have hnb27 := NB578_582.out
    have hnc27 := NB582_578.out
    obtain ⟨hcz28_0, hcz28_1, hcz28_2, hcz28_3, hcz28_4, hcz28_5, hcz28_6, hcz28_7, hcz28_8, hcz28_9, hcz28_10, hcz28_11, hcz28_12⟩ := blk_cells13 BK578.out
    obtain ⟨hfz28_0, hfz28_1, hfz28_2, hfz28_3, hfz28_4, hfz28_5, hfz28_6, hfz28_7, hfz28_8, hfz28_9, hfz28_10, hfz28_11, hfz28_12⟩ := blk_frozens13 BK578.out
    have hnb29 := NB579_580.out
    have hnc29 := NB580_579.out
    have hnb30 := NB579_581.out
    have hnc30 := NB581_579.out
    have hnb31 := NB579_582.out
    have hnc31 := NB582_579.out
    obtain ⟨hcz32_0, hcz32_1⟩ := blk_cells2 BK579.out
    obtain ⟨hfz32_0, hfz32_1⟩ := blk_frozens2 BK579.out
    go_wp2
    go_meet
    case rel => exact ⟨_, ((a0_3 == a1_0 && (a0_4 == a1_1))), (by first | rfl | (simp; done) | (simp [*]; done)), H', ⟨by first | omega | exact Nat.le_refl _⟩, ⟨by (with_reducible repeat (first | apply Kd.V_alloc | apply Kd.V_drewN | apply Kd.V_drew)); exact Kd.V_mono HO0_12.out (fun _ hk => ⟨hk.1.1.1.1.1, ⟨hk.1.1.1.1.2, ⟨hk.1.1.1.2, ⟨hk.1.1.2, ⟨hk.1.2, hk.2⟩⟩⟩⟩⟩)⟩, ⟨by (with_reducible repeat (first | apply Kd.V_alloc | apply Kd.V_drewN | apply Kd.V_drew)); exact Kd.V_mono HO3_1.out (fun _ hk => ⟨hk.1.1.1.1.1, ⟨hk.1.1.1.1.2, ⟨hk.1.1.1.2, ⟨hk.1.1.2, ⟨hk.1.2, hk.2⟩⟩⟩⟩⟩)⟩, ⟨by (with_reducible repeat (first | refine blk_drewN ?_ _ | refine blk_drew ?_ | refine blk_alloc ?_ _)); exact BK578.out⟩, ⟨by (with_reducible repeat (first | refine blk_drewN ?_ _ | refine blk_drew ?_ | refine blk_alloc ?_ _)); exact BK579.out⟩, ⟨by (with_reducible repeat (first | refine blk_drewN ?_ _ | refine blk_drew ?_ | refine blk_alloc ?_ _)); exact BK580.out⟩, ⟨by (with_reducible repeat (first | refine blk_drewN ?_ _ | refine blk_drew ?_ | refine blk_alloc ?_ _)); exact BK581.out⟩, ⟨by (with_reducible repeat (first | refine blk_drewN ?_ _ | refine blk_drew ?_ | refine blk_alloc ?_ _)); exact BK582.out⟩, ⟨gw_ HB⟩⟩
   ·
    rw [if_neg c23] at H
    have c23b0 : (a0_0 == 2) = false := beq_eq_false_iff_ne.mpr c23
    have c23b1 : (a0_0 != 2) = true := bne_iff_ne.mpr c23
    (first | rw [c23b0] | (simp only [i64_w, i32_w]; rw [c23b0]) | skip)
    have H' := Aside0.mk H
    clear H
    have hnb33 := NB578_579.out
    have hnc33 := NB579_578.out
    have hnb34 := NB578_580.out
    have hnc34 := NB580_578.out
    have hnb35 := NB578_581.out
    have hnc35 := NB581_578.out
    have hnb36 := NB578_582.out
    have hnc36 := NB582_578.out
    obtain ⟨hcz37_0, hcz37_1, hcz37_2, hcz37_3, hcz37_4, hcz37_5, hcz37_6, hcz37_7, hcz37_8, hcz37_9, hcz37_10, hcz37_11, hcz37_12⟩ := blk_cells13 BK578.out
    obtain ⟨hfz37_0, hfz37_1, hfz37_2, hfz37_3, hfz37_4, hfz37_5, hfz37_6, hfz37_7, hfz37_8, hfz37_9, hfz37_10, hfz37_11, hfz37_12⟩ := blk_frozens13 BK578.out
    go_wp2
    go_meet
    case rel => exact ⟨_, (false), (by first | rfl | (simp; done) | (simp [*]; done)), H', ⟨by first | omega | exact Nat.le_refl _⟩, ⟨by (with_reducible repeat (first | apply Kd.V_alloc | apply Kd.V_drewN | apply Kd.V_drew)); exact Kd.V_mono HO0_12.out (fun _ hk => ⟨hk.1.1.1.1.1, ⟨hk.1.1.1.1.2, ⟨hk.1.1.1.2, ⟨hk.1.1.2, ⟨hk.1.2, hk.2⟩⟩⟩⟩⟩)⟩, ⟨by (with_reducible repeat (first | apply Kd.V_alloc | apply Kd.V_drewN | apply Kd.V_drew)); exact Kd.V_mono HO3_1.out (fun _ hk => ⟨hk.1.1.1.1.1, ⟨hk.1.1.1.1.2, ⟨hk.1.1.1.2, ⟨hk.1.1.2, ⟨hk.1.2, hk.2⟩⟩⟩⟩⟩)⟩, ⟨by (with_reducible repeat (first | refine blk_drewN ?_ _ | refine blk_drew ?_ | refine blk_alloc ?_ _)); exact BK578.out⟩, ⟨by (with_reducible repeat (first | refine blk_drewN ?_ _ | refine blk_drew ?_ | refine blk_alloc ?_ _)); exact BK579.out⟩, ⟨by (with_reducible repeat (first | refine blk_drewN ?_ _ | refine blk_drew ?_ | refine blk_alloc ?_ _)); exact BK580.out⟩, ⟨by (with_reducible repeat (first | refine blk_drewN ?_ _ | refine blk_drew ?_ | refine blk_alloc ?_ _)); exact BK581.out⟩, ⟨by (with_reducible repeat (first | refine blk_drewN ?_ _ | refine blk_drew ?_ | refine blk_alloc ?_ _)); exact BK582.out⟩, ⟨gw_ HB⟩⟩
 case rest =>
  clear HC6
  try clear c1
  try clear c2
  try clear p2
  try clear c3
  try clear c4
  try clear c12
  try clear c13
  try clear c14
  try clear c15
  try clear c17
  try clear c18
  try clear c19
  try clear c22
  try clear c23
  try clear c23b0
  try clear c23b1
  try clear c24
  try clear c25
  try clear c26
  try clear c27
  try clear c29
  try clear c30
  try clear c31
  try clear c33
  try clear c34
  try clear c35
  try clear c36
  try clear hcz16_0
  try clear hcz16_1
  try clear hcz16_10
  try clear hcz16_11
  try clear hcz16_12
  try clear hcz16_2
  try clear hcz16_3
  try clear hcz16_4
  try clear hcz16_5
  try clear hcz16_6
  try clear hcz16_7
  try clear hcz16_8
  try clear hcz16_9
  try clear hcz20_0
  try clear hcz20_1
  try clear hcz28_0
  try clear hcz28_1
  try clear hcz28_10
  try clear hcz28_11
  try clear hcz28_12
  try clear hcz28_2
  try clear hcz28_3
  try clear hcz28_4
  try clear hcz28_5
  try clear hcz28_6
  try clear hcz28_7
  try clear hcz28_8
  try clear hcz28_9
  try clear hcz32_0
  try clear hcz32_1
  try clear hcz37_0
  try clear hcz37_1
  try clear hcz37_10
  try clear hcz37_11
  try clear hcz37_12
  try clear hcz37_2
  try clear hcz37_3
  try clear hcz37_4
  try clear hcz37_5
  try clear hcz37_6
  try clear hcz37_7
  try clear hcz37_8
  try clear hcz37_9
  try clear hfz16_0
  try clear hfz16_1
  try clear hfz16_10
  try clear hfz16_11
  try clear hfz16_12
  try clear hfz16_2
  try clear hfz16_3
  try clear hfz16_4
  try clear hfz16_5
  try clear hfz16_6
  try clear hfz16_7
  try clear hfz16_8
  try clear hfz16_9
  try clear hfz20_0
  try clear hfz20_1
  try clear hfz28_0
  try clear hfz28_1
  try clear hfz28_10
  try clear hfz28_11
  try clear hfz28_12
  try clear hfz28_2
  try clear hfz28_3
  try clear hfz28_4
  try clear hfz28_5
  try clear hfz28_6
  try clear hfz28_7
  try clear hfz28_8
  try clear hfz28_9
  try clear hfz32_0
  try clear hfz32_1
  try clear hfz37_0
  try clear hfz37_1
  try clear hfz37_10
  try clear hfz37_11
  try clear hfz37_12
  try clear hfz37_2
  try clear hfz37_3
  try clear hfz37_4
  try clear hfz37_5
  try clear hfz37_6
  try clear hfz37_7
  try clear hfz37_8
  try clear hfz37_9
  obtain ⟨kq, x25_5, rfl, HA, HJ5, HO_579012, HO_582001, BK578, BK579, BK580, BK581, BK582, HB⟩ := hcut
  cases kq with
  | zero => exact absurd HA.out (by simp [colloquyref09_PreAccept.j0])
  | succ kj5 =>
   have H := HA.out
   clear HA
   simp only [colloquyref09_PreAccept.j0] at H
   by_cases c38 : x25_5 = true
   ·
    subst c38
    have H1 : (some (a0_0, a0_1, a0_2, a0_3, a0_4, a0_5, a0_6, a0_7, a0_8, a0_9, a0_10, a0_11, l0_12, false)) = some (r1, r2, r3, r4, r5, r6, r7, r8, r9, r10, r11, r12, r13, r14) := by rw [if_pos rfl] at H; exact H
    clear H
    have H := H1
    clear H1
    simp only [Option.some.injEq, Prod.mk.injEq] at H
    obtain ⟨rfl, rfl, rfl, rfl, rfl, rfl, rfl, rfl, rfl, rfl, rfl, rfl, rfl, rfl⟩ := H
    have hnb39 := NB578_579.out
    have hnc39 := NB579_578.out
    have hnb40 := NB578_580.out
    have hnc40 := NB580_578.out
    have hnb41 := NB578_581.out
    have hnc41 := NB581_578.out
    have hnb42 := NB578_582.out
    have hnc42 := NB582_578.out
    obtain ⟨hcz43_0, hcz43_1, hcz43_2, hcz43_3, hcz43_4, hcz43_5, hcz43_6, hcz43_7, hcz43_8, hcz43_9, hcz43_10, hcz43_11, hcz43_12⟩ := blk_cells13 BK578.out
    obtain ⟨hfz43_0, hfz43_1, hfz43_2, hfz43_3, hfz43_4, hfz43_5, hfz43_6, hfz43_7, hfz43_8, hfz43_9, hfz43_10, hfz43_11, hfz43_12⟩ := blk_frozens13 BK578.out
    have hnb44 := NB582_579.out
    have hnc44 := NB579_582.out
    have hnb45 := NB582_580.out
    have hnc45 := NB580_582.out
    have hnb46 := NB582_581.out
    have hnc46 := NB581_582.out
    obtain ⟨hcz47_0, hcz47_1, hcz47_2, hcz47_3, hcz47_4, hcz47_5, hcz47_6, hcz47_7, hcz47_8, hcz47_9, hcz47_10, hcz47_11, hcz47_12⟩ := blk_cells13 BK582.out
    obtain ⟨hfz47_0, hfz47_1, hfz47_2, hfz47_3, hfz47_4, hfz47_5, hfz47_6, hfz47_7, hfz47_8, hfz47_9, hfz47_10, hfz47_11, hfz47_12⟩ := blk_frozens13 BK582.out
    go_wp2
    refine bodyPost_ret (results_ct rfl _ _ gb582 32 #[.int .i64 a0_0, .int .i64 a0_1, .int .i64 a0_2, .int .i64 a0_3, .int .i64 a0_4, .int .i64 a0_5, .int .i64 a0_6, .int .i64 a0_7, .int .i64 a0_8, .int .i64 a0_9, .string a0_10, .int .i64 a0_11, .slice A0_12 l0_12.length c0_12] (0, 0) _ rfl (by (with_reducible repeat (first | refine blk_drewN ?_ _ | refine blk_drew ?_ | refine blk_alloc ?_ _)); refine blk_put13 (cs := #[.int .i64 0, .int .i64 0, .int .i64 0, .int .i64 0, .int .i64 0, .int .i64 0, .int .i64 0, .int .i64 0, .int .i64 0, .int .i64 0, .string (⟨#[]⟩ : ByteArray), .int .i64 0, .slice none 0 0]) ?_ rfl; (with_reducible repeat (first | refine blk_drewN ?_ _ | refine blk_drew ?_ | refine blk_alloc ?_ _)); exact BK582.out) Try.underlying32 rfl (by kernel_rfl)) rfl ?_
    exact ⟨_, by first | rfl | (simp [errW_none, errW_some] <;> rfl) | (simp [*, errW_none, errW_some] <;> rfl), by (with_reducible repeat (first | apply Kd.V_alloc | apply Kd.V_drewN | apply Kd.V_drew)); exact Kd.V_mono (Kd.V_far (p := ⟨gb582, 12, none⟩) (Kd.V_far (p := ⟨gb582, 11, none⟩) (Kd.V_far (p := ⟨gb582, 10, none⟩) (Kd.V_far (p := ⟨gb582, 9, none⟩) (Kd.V_far (p := ⟨gb582, 8, none⟩) (Kd.V_far (p := ⟨gb582, 7, none⟩) (Kd.V_far (p := ⟨gb582, 6, none⟩) (Kd.V_far (p := ⟨gb582, 5, none⟩) (Kd.V_far (p := ⟨gb582, 4, none⟩) (Kd.V_far (p := ⟨gb582, 3, none⟩) (Kd.V_far (p := ⟨gb582, 2, none⟩) (Kd.V_far (p := ⟨gb582, 1, none⟩) (Kd.V_far (p := ⟨gb582, 0, none⟩) (Kd.V_mono HO_579012.out (fun k_ hk => (⟨hk, hk.2.2.2.2.2⟩ : _ ∧ k_ ≠ gb582))) (fun _ hk => hk.2) (.int .i64 a0_0)) (fun _ hk => hk.2) (.int .i64 a0_1)) (fun _ hk => hk.2) (.int .i64 a0_2)) (fun _ hk => hk.2) (.int .i64 a0_3)) (fun _ hk => hk.2) (.int .i64 a0_4)) (fun _ hk => hk.2) (.int .i64 a0_5)) (fun _ hk => hk.2) (.int .i64 a0_6)) (fun _ hk => hk.2) (.int .i64 a0_7)) (fun _ hk => hk.2) (.int .i64 a0_8)) (fun _ hk => hk.2) (.int .i64 a0_9)) (fun _ hk => hk.2) (.string a0_10)) (fun _ hk => hk.2) (.int .i64 a0_11)) (fun _ hk => hk.2) (.slice A0_12 l0_12.length c0_12)) (fun _ hk => hk.1.1), gw_ HB⟩
   ·
    replace c38 := Bool.eq_false_iff.mpr c38
    subst c38
    have H1 : (if a0_0 = 1 then (if (a0_3 == a1_0 && (a0_4 == a1_1)) = true then (some (a0_0, a0_1, a0_2, a0_3, a0_4, a0_5, a0_6, a0_7, a0_8, a0_9, a0_10, a0_11, l0_12, true)) else (some (1, a1_0, a1_1, a1_0, a1_1, a2_0, a2_1, a2_2, a2_3, a2_4, a2_5, a3_0, l3_1, true))) else (some (1, a1_0, a1_1, a1_0, a1_1, a2_0, a2_1, a2_2, a2_3, a2_4, a2_5, a3_0, l3_1, true))) = some (r1, r2, r3, r4, r5, r6, r7, r8, r9, r10, r11, r12, r13, r14) := by rw [if_neg (show ¬ (false = true) by decide)] at H; exact H
    clear H
    have H := H1
    clear H1
    by_cases c48 : a0_0 = 1
    ·
     rw [if_pos c48] at H
     have c48b0 : (a0_0 == 1) = true := beq_iff_eq.mpr c48
     have c48b1 : (a0_0 != 1) = false := bne_eq_false_iff_eq.mpr c48
     clear c48
     by_cases c49 : (a0_3 == a1_0 && (a0_4 == a1_1)) = true
     ·
      rw [if_pos c49] at H
      have c49b0 : (a0_3 == a1_0 && (a0_4 == a1_1)) = true := c49
      (try (have c49b1 : decide (a0_3 = a1_0 && (a0_4 == a1_1)) = true := by simpa using c49))
      (try (have c49b2 : (a0_3 == a1_0 && (a0_4 == a1_1)) = true := by simpa using c49))
      clear c49
      simp only [Option.some.injEq, Prod.mk.injEq] at H
      obtain ⟨rfl, rfl, rfl, rfl, rfl, rfl, rfl, rfl, rfl, rfl, rfl, rfl, rfl, rfl⟩ := H
      have hnb50 := NB578_579.out
      have hnc50 := NB579_578.out
      have hnb51 := NB578_580.out
      have hnc51 := NB580_578.out
      have hnb52 := NB578_581.out
      have hnc52 := NB581_578.out
      have hnb53 := NB578_582.out
      have hnc53 := NB582_578.out
      obtain ⟨hcz54_0, hcz54_1, hcz54_2, hcz54_3, hcz54_4, hcz54_5, hcz54_6, hcz54_7, hcz54_8, hcz54_9, hcz54_10, hcz54_11, hcz54_12⟩ := blk_cells13 BK578.out
      obtain ⟨hfz54_0, hfz54_1, hfz54_2, hfz54_3, hfz54_4, hfz54_5, hfz54_6, hfz54_7, hfz54_8, hfz54_9, hfz54_10, hfz54_11, hfz54_12⟩ := blk_frozens13 BK578.out
      have hnb55 := NB579_580.out
      have hnc55 := NB580_579.out
      have hnb56 := NB579_581.out
      have hnc56 := NB581_579.out
      have hnb57 := NB579_582.out
      have hnc57 := NB582_579.out
      obtain ⟨hcz58_0, hcz58_1⟩ := blk_cells2 BK579.out
      obtain ⟨hfz58_0, hfz58_1⟩ := blk_frozens2 BK579.out
      have hnb59 := NB582_580.out
      have hnc59 := NB580_582.out
      have hnb60 := NB582_581.out
      have hnc60 := NB581_582.out
      obtain ⟨hcz61_0, hcz61_1, hcz61_2, hcz61_3, hcz61_4, hcz61_5, hcz61_6, hcz61_7, hcz61_8, hcz61_9, hcz61_10, hcz61_11, hcz61_12⟩ := blk_cells13 BK582.out
      obtain ⟨hfz61_0, hfz61_1, hfz61_2, hfz61_3, hfz61_4, hfz61_5, hfz61_6, hfz61_7, hfz61_8, hfz61_9, hfz61_10, hfz61_11, hfz61_12⟩ := blk_frozens13 BK582.out
      go_wp2
      refine bodyPost_ret (results_ct rfl _ _ gb582 32 #[.int .i64 a0_0, .int .i64 a0_1, .int .i64 a0_2, .int .i64 a0_3, .int .i64 a0_4, .int .i64 a0_5, .int .i64 a0_6, .int .i64 a0_7, .int .i64 a0_8, .int .i64 a0_9, .string a0_10, .int .i64 a0_11, .slice A0_12 l0_12.length c0_12] (0, 0) _ rfl (by (with_reducible repeat (first | refine blk_drewN ?_ _ | refine blk_drew ?_ | refine blk_alloc ?_ _)); refine blk_put13 (cs := #[.int .i64 0, .int .i64 0, .int .i64 0, .int .i64 0, .int .i64 0, .int .i64 0, .int .i64 0, .int .i64 0, .int .i64 0, .int .i64 0, .string (⟨#[]⟩ : ByteArray), .int .i64 0, .slice none 0 0]) ?_ rfl; (with_reducible repeat (first | refine blk_drewN ?_ _ | refine blk_drew ?_ | refine blk_alloc ?_ _)); exact BK582.out) Try.underlying32 rfl (by kernel_rfl)) rfl ?_
      exact ⟨_, by first | rfl | (simp [errW_none, errW_some] <;> rfl) | (simp [*, errW_none, errW_some] <;> rfl), by (with_reducible repeat (first | apply Kd.V_alloc | apply Kd.V_drewN | apply Kd.V_drew)); exact Kd.V_mono (Kd.V_far (p := ⟨gb582, 12, none⟩) (Kd.V_far (p := ⟨gb582, 11, none⟩) (Kd.V_far (p := ⟨gb582, 10, none⟩) (Kd.V_far (p := ⟨gb582, 9, none⟩) (Kd.V_far (p := ⟨gb582, 8, none⟩) (Kd.V_far (p := ⟨gb582, 7, none⟩) (Kd.V_far (p := ⟨gb582, 6, none⟩) (Kd.V_far (p := ⟨gb582, 5, none⟩) (Kd.V_far (p := ⟨gb582, 4, none⟩) (Kd.V_far (p := ⟨gb582, 3, none⟩) (Kd.V_far (p := ⟨gb582, 2, none⟩) (Kd.V_far (p := ⟨gb582, 1, none⟩) (Kd.V_far (p := ⟨gb582, 0, none⟩) (Kd.V_mono HO_579012.out (fun k_ hk => (⟨hk, hk.2.2.2.2.2⟩ : _ ∧ k_ ≠ gb582))) (fun _ hk => hk.2) (.int .i64 a0_0)) (fun _ hk => hk.2) (.int .i64 a0_1)) (fun _ hk => hk.2) (.int .i64 a0_2)) (fun _ hk => hk.2) (.int .i64 a0_3)) (fun _ hk => hk.2) (.int .i64 a0_4)) (fun _ hk => hk.2) (.int .i64 a0_5)) (fun _ hk => hk.2) (.int .i64 a0_6)) (fun _ hk => hk.2) (.int .i64 a0_7)) (fun _ hk => hk.2) (.int .i64 a0_8)) (fun _ hk => hk.2) (.int .i64 a0_9)) (fun _ hk => hk.2) (.string a0_10)) (fun _ hk => hk.2) (.int .i64 a0_11)) (fun _ hk => hk.2) (.slice A0_12 l0_12.length c0_12)) (fun _ hk => hk.1.1), gw_ HB⟩
     ·
      rw [if_neg c49] at H
      have c49b0 : (a0_3 == a1_0 && (a0_4 == a1_1)) = false := by simpa using c49
      (try (have c49b1 : decide (a0_3 = a1_0 && (a0_4 == a1_1)) = false := by simpa using c49))
      (try (have c49b2 : (a0_3 == a1_0 && (a0_4 == a1_1)) = false := by simpa using c49))
      (try (have c49b3 : ¬ (a0_3 = a1_0 && (a0_4 == a1_1)) := by simpa using c49))
      clear c49
      simp only [Option.some.injEq, Prod.mk.injEq] at H
      obtain ⟨rfl, rfl, rfl, rfl, rfl, rfl, rfl, rfl, rfl, rfl, rfl, rfl, rfl, rfl⟩ := H
      have hnb62 := NB578_579.out
      have hnc62 := NB579_578.out
      have hnb63 := NB578_580.out
      have hnc63 := NB580_578.out
      have hnb64 := NB578_581.out
      have hnc64 := NB581_578.out
      have hnb65 := NB578_582.out
      have hnc65 := NB582_578.out
      obtain ⟨hcz66_0, hcz66_1, hcz66_2, hcz66_3, hcz66_4, hcz66_5, hcz66_6, hcz66_7, hcz66_8, hcz66_9, hcz66_10, hcz66_11, hcz66_12⟩ := blk_cells13 BK578.out
      obtain ⟨hfz66_0, hfz66_1, hfz66_2, hfz66_3, hfz66_4, hfz66_5, hfz66_6, hfz66_7, hfz66_8, hfz66_9, hfz66_10, hfz66_11, hfz66_12⟩ := blk_frozens13 BK578.out
      have hnb67 := NB579_580.out
      have hnc67 := NB580_579.out
      have hnb68 := NB579_581.out
      have hnc68 := NB581_579.out
      have hnb69 := NB579_582.out
      have hnc69 := NB582_579.out
      obtain ⟨hcz70_0, hcz70_1⟩ := blk_cells2 BK579.out
      obtain ⟨hfz70_0, hfz70_1⟩ := blk_frozens2 BK579.out
      have hnb71 := NB580_581.out
      have hnc71 := NB581_580.out
      have hnb72 := NB580_582.out
      have hnc72 := NB582_580.out
      obtain ⟨hcz73_0, hcz73_1, hcz73_2, hcz73_3, hcz73_4, hcz73_5⟩ := blk_cells6 BK580.out
      obtain ⟨hfz73_0, hfz73_1, hfz73_2, hfz73_3, hfz73_4, hfz73_5⟩ := blk_frozens6 BK580.out
      have hnb74 := NB581_582.out
      have hnc74 := NB582_581.out
      obtain ⟨hcz75_0, hcz75_1⟩ := blk_cells2 BK581.out
      obtain ⟨hfz75_0, hfz75_1⟩ := blk_frozens2 BK581.out
      obtain ⟨hcz76_0, hcz76_1, hcz76_2, hcz76_3, hcz76_4, hcz76_5, hcz76_6, hcz76_7, hcz76_8, hcz76_9, hcz76_10, hcz76_11, hcz76_12⟩ := blk_cells13 BK582.out
      obtain ⟨hfz76_0, hfz76_1, hfz76_2, hfz76_3, hfz76_4, hfz76_5, hfz76_6, hfz76_7, hfz76_8, hfz76_9, hfz76_10, hfz76_11, hfz76_12⟩ := blk_frozens13 BK582.out
      go_wp2
      refine bodyPost_ret (results_ct rfl _ _ gb582 32 #[.int .i64 1, .int .i64 a1_0, .int .i64 a1_1, .int .i64 a1_0, .int .i64 a1_1, .int .i64 a2_0, .int .i64 a2_1, .int .i64 a2_2, .int .i64 a2_3, .int .i64 a2_4, .string a2_5, .int .i64 a3_0, .slice A3_1 l3_1.length c3_1] (0, 0) _ rfl (by (with_reducible repeat (first | refine blk_drewN ?_ _ | refine blk_drew ?_ | refine blk_alloc ?_ _)); refine blk_put13 (cs := #[.int .i64 0, .int .i64 0, .int .i64 0, .int .i64 0, .int .i64 0, .int .i64 0, .int .i64 0, .int .i64 0, .int .i64 0, .int .i64 0, .string (⟨#[]⟩ : ByteArray), .int .i64 0, .slice none 0 0]) ?_ rfl; (with_reducible repeat (first | refine blk_drewN ?_ _ | refine blk_drew ?_ | refine blk_alloc ?_ _)); exact BK582.out) Try.underlying32 rfl (by kernel_rfl)) rfl ?_
      exact ⟨_, by first | rfl | (simp [errW_none, errW_some] <;> rfl) | (simp [*, errW_none, errW_some] <;> rfl), by (with_reducible repeat (first | apply Kd.V_alloc | apply Kd.V_drewN | apply Kd.V_drew)); exact Kd.V_mono (Kd.V_far (p := ⟨gb582, 12, none⟩) (Kd.V_far (p := ⟨gb582, 11, none⟩) (Kd.V_far (p := ⟨gb582, 10, none⟩) (Kd.V_far (p := ⟨gb582, 9, none⟩) (Kd.V_far (p := ⟨gb582, 8, none⟩) (Kd.V_far (p := ⟨gb582, 7, none⟩) (Kd.V_far (p := ⟨gb582, 6, none⟩) (Kd.V_far (p := ⟨gb582, 5, none⟩) (Kd.V_far (p := ⟨gb582, 4, none⟩) (Kd.V_far (p := ⟨gb582, 3, none⟩) (Kd.V_far (p := ⟨gb582, 2, none⟩) (Kd.V_far (p := ⟨gb582, 1, none⟩) (Kd.V_far (p := ⟨gb582, 0, none⟩) (Kd.V_mono HO_582001.out (fun k_ hk => (⟨hk, hk.2.2.2.2.2⟩ : _ ∧ k_ ≠ gb582))) (fun _ hk => hk.2) (.int .i64 1)) (fun _ hk => hk.2) (.int .i64 a1_0)) (fun _ hk => hk.2) (.int .i64 a1_1)) (fun _ hk => hk.2) (.int .i64 a1_0)) (fun _ hk => hk.2) (.int .i64 a1_1)) (fun _ hk => hk.2) (.int .i64 a2_0)) (fun _ hk => hk.2) (.int .i64 a2_1)) (fun _ hk => hk.2) (.int .i64 a2_2)) (fun _ hk => hk.2) (.int .i64 a2_3)) (fun _ hk => hk.2) (.int .i64 a2_4)) (fun _ hk => hk.2) (.string a2_5)) (fun _ hk => hk.2) (.int .i64 a3_0)) (fun _ hk => hk.2) (.slice A3_1 l3_1.length c3_1)) (fun _ hk => hk.1.1), gw_ HB⟩
    ·
     rw [if_neg c48] at H
     have c48b0 : (a0_0 == 1) = false := beq_eq_false_iff_ne.mpr c48
     have c48b1 : (a0_0 != 1) = true := bne_iff_ne.mpr c48
     simp only [Option.some.injEq, Prod.mk.injEq] at H
     obtain ⟨rfl, rfl, rfl, rfl, rfl, rfl, rfl, rfl, rfl, rfl, rfl, rfl, rfl, rfl⟩ := H
     have hnb77 := NB578_579.out
     have hnc77 := NB579_578.out
     have hnb78 := NB578_580.out
     have hnc78 := NB580_578.out
     have hnb79 := NB578_581.out
     have hnc79 := NB581_578.out
     have hnb80 := NB578_582.out
     have hnc80 := NB582_578.out
     obtain ⟨hcz81_0, hcz81_1, hcz81_2, hcz81_3, hcz81_4, hcz81_5, hcz81_6, hcz81_7, hcz81_8, hcz81_9, hcz81_10, hcz81_11, hcz81_12⟩ := blk_cells13 BK578.out
     obtain ⟨hfz81_0, hfz81_1, hfz81_2, hfz81_3, hfz81_4, hfz81_5, hfz81_6, hfz81_7, hfz81_8, hfz81_9, hfz81_10, hfz81_11, hfz81_12⟩ := blk_frozens13 BK578.out
     have hnb82 := NB579_580.out
     have hnc82 := NB580_579.out
     have hnb83 := NB579_581.out
     have hnc83 := NB581_579.out
     have hnb84 := NB579_582.out
     have hnc84 := NB582_579.out
     obtain ⟨hcz85_0, hcz85_1⟩ := blk_cells2 BK579.out
     obtain ⟨hfz85_0, hfz85_1⟩ := blk_frozens2 BK579.out
     have hnb86 := NB580_581.out
     have hnc86 := NB581_580.out
     have hnb87 := NB580_582.out
     have hnc87 := NB582_580.out
     obtain ⟨hcz88_0, hcz88_1, hcz88_2, hcz88_3, hcz88_4, hcz88_5⟩ := blk_cells6 BK580.out
     obtain ⟨hfz88_0, hfz88_1, hfz88_2, hfz88_3, hfz88_4, hfz88_5⟩ := blk_frozens6 BK580.out
     have hnb89 := NB581_582.out
     have hnc89 := NB582_581.out
     obtain ⟨hcz90_0, hcz90_1⟩ := blk_cells2 BK581.out
     obtain ⟨hfz90_0, hfz90_1⟩ := blk_frozens2 BK581.out
     obtain ⟨hcz91_0, hcz91_1, hcz91_2, hcz91_3, hcz91_4, hcz91_5, hcz91_6, hcz91_7, hcz91_8, hcz91_9, hcz91_10, hcz91_11, hcz91_12⟩ := blk_cells13 BK582.out
     obtain ⟨hfz91_0, hfz91_1, hfz91_2, hfz91_3, hfz91_4, hfz91_5, hfz91_6, hfz91_7, hfz91_8, hfz91_9, hfz91_10, hfz91_11, hfz91_12⟩ := blk_frozens13 BK582.out
     go_wp2
     refine bodyPost_ret (results_ct rfl _ _ gb582 32 #[.int .i64 1, .int .i64 a1_0, .int .i64 a1_1, .int .i64 a1_0, .int .i64 a1_1, .int .i64 a2_0, .int .i64 a2_1, .int .i64 a2_2, .int .i64 a2_3, .int .i64 a2_4, .string a2_5, .int .i64 a3_0, .slice A3_1 l3_1.length c3_1] (0, 0) _ rfl (by (with_reducible repeat (first | refine blk_drewN ?_ _ | refine blk_drew ?_ | refine blk_alloc ?_ _)); refine blk_put13 (cs := #[.int .i64 0, .int .i64 0, .int .i64 0, .int .i64 0, .int .i64 0, .int .i64 0, .int .i64 0, .int .i64 0, .int .i64 0, .int .i64 0, .string (⟨#[]⟩ : ByteArray), .int .i64 0, .slice none 0 0]) ?_ rfl; (with_reducible repeat (first | refine blk_drewN ?_ _ | refine blk_drew ?_ | refine blk_alloc ?_ _)); exact BK582.out) Try.underlying32 rfl (by kernel_rfl)) rfl ?_
     exact ⟨_, by first | rfl | (simp [errW_none, errW_some] <;> rfl) | (simp [*, errW_none, errW_some] <;> rfl), by (with_reducible repeat (first | apply Kd.V_alloc | apply Kd.V_drewN | apply Kd.V_drew)); exact Kd.V_mono (Kd.V_far (p := ⟨gb582, 12, none⟩) (Kd.V_far (p := ⟨gb582, 11, none⟩) (Kd.V_far (p := ⟨gb582, 10, none⟩) (Kd.V_far (p := ⟨gb582, 9, none⟩) (Kd.V_far (p := ⟨gb582, 8, none⟩) (Kd.V_far (p := ⟨gb582, 7, none⟩) (Kd.V_far (p := ⟨gb582, 6, none⟩) (Kd.V_far (p := ⟨gb582, 5, none⟩) (Kd.V_far (p := ⟨gb582, 4, none⟩) (Kd.V_far (p := ⟨gb582, 3, none⟩) (Kd.V_far (p := ⟨gb582, 2, none⟩) (Kd.V_far (p := ⟨gb582, 1, none⟩) (Kd.V_far (p := ⟨gb582, 0, none⟩) (Kd.V_mono HO_582001.out (fun k_ hk => (⟨hk, hk.2.2.2.2.2⟩ : _ ∧ k_ ≠ gb582))) (fun _ hk => hk.2) (.int .i64 1)) (fun _ hk => hk.2) (.int .i64 a1_0)) (fun _ hk => hk.2) (.int .i64 a1_1)) (fun _ hk => hk.2) (.int .i64 a1_0)) (fun _ hk => hk.2) (.int .i64 a1_1)) (fun _ hk => hk.2) (.int .i64 a2_0)) (fun _ hk => hk.2) (.int .i64 a2_1)) (fun _ hk => hk.2) (.int .i64 a2_2)) (fun _ hk => hk.2) (.int .i64 a2_3)) (fun _ hk => hk.2) (.int .i64 a2_4)) (fun _ hk => hk.2) (.string a2_5)) (fun _ hk => hk.2) (.int .i64 a3_0)) (fun _ hk => hk.2) (.slice A3_1 l3_1.length c3_1)) (fun _ hk => hk.1.1), gw_ HB⟩

end Go.Proofs.Ytkijkdifmoifaaa.P
