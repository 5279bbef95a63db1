/- Plain Lean functions and their contracts over the translation, written by a program of this session (myprint.py, over the kit's print); no condition but each contract's own. -/
import Derived.Test.YtkijkdifmoifaaaPx0
import Derived.Test.YtkijkdifmoifaaaPx1
import Derived.Test.YtkijkdifmoifaaaPx2
import Derived.Test.YtkijkdifmoifaaaPx7
import Derived.Test.YtkijkdifmoifaaaPx8
import Derived.Test.YtkijkdifmoifaaaPx13
namespace Go.Proofs.Ytkijkdifmoifaaa.P
open Go.RowKit Go.Proofs.YtkijkdifmoifaaaW.PrintWords Go.Proofs.YtkijkdifmoifaaaW.PrintLast Go.Proofs.YtkijkdifmoifaaaW.PrintMore
attribute [local go_sem] max2_int min2_int max_two min_two max_three min_three max_four min_four   -- for this text's walks alone
set_option linter.unusedVariables false
set_option linter.unusedSimpArgs false

attribute [local go_sem high] eqA25 eqA27
def colloquyref09_May.j0 : Nat → Int → Bool → Int → Int → Int → Int → Int → Int → Int → Int → Int → Int → ByteArray → Int → List Int → Option (Bool)
 | 0, _, _, _, _, _, _, _, _, _, _, _, _, _, _, _ => none
 | k + 1, x1, x39, x711000, x711001, x711002, x711003, x711004, x711005, x711006, x711007, x711008, x711009, x711010, x711011, x711012 => if x39 = true then (some false) else (if x711000 = 0 then (if (x711003 == 0 && (x711004 == 0)) = true then (if (x711005 == 0 && (x711006 == 0 && (x711007 == 0 && (x711008 == 0 && (x711009 == 0 && (x711010.toList == ([] : List UInt8))))))) = true then (if x711011 = 0 then (some ((x711012.length : Int) == 0)) else (some false)) else (some false)) else (some false)) else ((colloquyref04_May.f k x711005 x711006 x711007 x711008 x711009 x711010).bind fun t714 => ((colloquyref06_May.f k x711011 x711012 x1).bind fun t715 => ((colloquyref09_good.f x711003 x711004).bind fun t716 => (if t714 = true then (if t715 = true then (if t716 = true then (some true) else (some (x711000 == 3))) else (some false)) else (some false))))))
def colloquyref09_May.f (k : Nat) (a0_0 : Int) (a0_1 : Int) (a0_2 : Int) (a0_3 : Int) (a0_4 : Int) (a0_5 : Int) (a0_6 : Int) (a0_7 : Int) (a0_8 : Int) (a0_9 : Int) (a0_10 : ByteArray) (a0_11 : Int) (l0_12 : List Int) (a1 : Int) : Option (Bool) := (colloquyref07_May.f a0_1 a0_2).bind fun t711 => ((colloquyref07_May.f a0_3 a0_4).bind fun t712 => (if t711 = true then (if t712 = true then ((colloquyref07_Cmp.f k a0_3 a0_4 a0_1 a0_2).bind fun t713 => (if t713 > 0 then (colloquyref09_May.j0 k a1 true a0_0 a0_1 a0_2 a0_3 a0_4 a0_5 a0_6 a0_7 a0_8 a0_9 a0_10 a0_11 l0_12) else (if a0_0 < 0 then (colloquyref09_May.j0 k a1 true a0_0 a0_1 a0_2 a0_3 a0_4 a0_5 a0_6 a0_7 a0_8 a0_9 a0_10 a0_11 l0_12) else (colloquyref09_May.j0 k a1 (decide (a0_0 > 3)) a0_0 a0_1 a0_2 a0_3 a0_4 a0_5 a0_6 a0_7 a0_8 a0_9 a0_10 a0_11 l0_12)))) else (colloquyref09_May.j0 k a1 true a0_0 a0_1 a0_2 a0_3 a0_4 a0_5 a0_6 a0_7 a0_8 a0_9 a0_10 a0_11 l0_12)) else (colloquyref09_May.j0 k a1 true a0_0 a0_1 a0_2 a0_3 a0_4 a0_5 a0_6 a0_7 a0_8 a0_9 a0_10 a0_11 l0_12)))
set_option maxHeartbeats 8000000 in
set_option maxRecDepth 100000 in
theorem colloquyref09_May.calls (k : Nat) (a0_0 : Int) (a0_1 : Int) (a0_2 : Int) (a0_3 : Int) (a0_4 : Int) (a0_5 : Int) (a0_6 : Int) (a0_7 : Int) (a0_8 : Int) (a0_9 : Int) (a0_10 : ByteArray) (a0_11 : Int) (A0_12 : Option Addr) (c0_12 : Nat) (l0_12 : List Int) (a1 : Int) (r : Bool) (w : World) (hr0_12 : Kd.C (Kd.int .i64) w A0_12 l0_12.length l0_12) (hc0_12 : l0_12.length ≤ c0_12) (h : colloquyref09_May.f k a0_0 a0_1 a0_2 a0_3 a0_4 a0_5 a0_6 a0_7 a0_8 a0_9 a0_10 a0_11 l0_12 a1 = some r) :
  Calls Try.prog 17 #[.agg #[.int .i64 a0_0, .int .i64 a0_1, .int .i64 a0_2, .int .i64 a0_3, .int .i64 a0_4, .int .i64 a0_5, .int .i64 a0_6, .int .i64 a0_7, .int .i64 a0_8, .int .i64 a0_9, .string a0_10, .int .i64 a0_11, .slice A0_12 l0_12.length c0_12], .int .i64 a1] w fun e w' => e = .returned (.bool r) ∧ Below w.heap.size w w' := by
 have hu32 := Try.underlying32
 have hu25 := Try.underlying25
 have hu27 := Try.underlying27
 have hu30 := Try.underlying30
 have HR0_12 := Aside0.mk hr0_12
 have HC0_12 := Aside0.mk hc0_12
 clear hr0_12 hc0_12
 have HB := Aside0.mk (Below.refl w.heap.size w)
 have H : ((colloquyref07_May.f a0_1 a0_2).bind fun t711 => ((colloquyref07_May.f a0_3 a0_4).bind fun t712 => (if t711 = true then (if t712 = true then ((colloquyref07_Cmp.f k a0_3 a0_4 a0_1 a0_2).bind fun t713 => (if t713 > 0 then (colloquyref09_May.j0 k a1 true a0_0 a0_1 a0_2 a0_3 a0_4 a0_5 a0_6 a0_7 a0_8 a0_9 a0_10 a0_11 l0_12) else (if a0_0 < 0 then (colloquyref09_May.j0 k a1 true a0_0 a0_1 a0_2 a0_3 a0_4 a0_5 a0_6 a0_7 a0_8 a0_9 a0_10 a0_11 l0_12) else (colloquyref09_May.j0 k a1 (decide (a0_0 > 3)) a0_0 a0_1 a0_2 a0_3 a0_4 a0_5 a0_6 a0_7 a0_8 a0_9 a0_10 a0_11 l0_12)))) else (colloquyref09_May.j0 k a1 true a0_0 a0_1 a0_2 a0_3 a0_4 a0_5 a0_6 a0_7 a0_8 a0_9 a0_10 a0_11 l0_12)) else (colloquyref09_May.j0 k a1 true a0_0 a0_1 a0_2 a0_3 a0_4 a0_5 a0_6 a0_7 a0_8 a0_9 a0_10 a0_11 l0_12)))) = some r := h
 clear h
 replace H := Option.bind_eq_some_iff.mp H
 obtain ⟨t711, A30, H⟩ := H
 replace H : ((colloquyref07_May.f a0_3 a0_4).bind fun t712 => (if t711 = true then (if t712 = true then ((colloquyref07_Cmp.f k a0_3 a0_4 a0_1 a0_2).bind fun t713 => (if t713 > 0 then (colloquyref09_May.j0 k a1 true a0_0 a0_1 a0_2 a0_3 a0_4 a0_5 a0_6 a0_7 a0_8 a0_9 a0_10 a0_11 l0_12) else (if a0_0 < 0 then (colloquyref09_May.j0 k a1 true a0_0 a0_1 a0_2 a0_3 a0_4 a0_5 a0_6 a0_7 a0_8 a0_9 a0_10 a0_11 l0_12) else (colloquyref09_May.j0 k a1 (decide (a0_0 > 3)) a0_0 a0_1 a0_2 a0_3 a0_4 a0_5 a0_6 a0_7 a0_8 a0_9 a0_10 a0_11 l0_12)))) else (colloquyref09_May.j0 k a1 true a0_0 a0_1 a0_2 a0_3 a0_4 a0_5 a0_6 a0_7 a0_8 a0_9 a0_10 a0_11 l0_12)) else (colloquyref09_May.j0 k a1 true a0_0 a0_1 a0_2 a0_3 a0_4 a0_5 a0_6 a0_7 a0_8 a0_9 a0_10 a0_11 l0_12))) = some r := H
 have A3 := Aside0.mk A30
 clear A30
 replace H := Option.bind_eq_some_iff.mp H
 obtain ⟨t712, A40, H⟩ := H
 replace H : (if t711 = true then (if t712 = true then ((colloquyref07_Cmp.f k a0_3 a0_4 a0_1 a0_2).bind fun t713 => (if t713 > 0 then (colloquyref09_May.j0 k a1 true a0_0 a0_1 a0_2 a0_3 a0_4 a0_5 a0_6 a0_7 a0_8 a0_9 a0_10 a0_11 l0_12) else (if a0_0 < 0 then (colloquyref09_May.j0 k a1 true a0_0 a0_1 a0_2 a0_3 a0_4 a0_5 a0_6 a0_7 a0_8 a0_9 a0_10 a0_11 l0_12) else (colloquyref09_May.j0 k a1 (decide (a0_0 > 3)) a0_0 a0_1 a0_2 a0_3 a0_4 a0_5 a0_6 a0_7 a0_8 a0_9 a0_10 a0_11 l0_12)))) else (colloquyref09_May.j0 k a1 true a0_0 a0_1 a0_2 a0_3 a0_4 a0_5 a0_6 a0_7 a0_8 a0_9 a0_10 a0_11 l0_12)) else (colloquyref09_May.j0 k a1 true a0_0 a0_1 a0_2 a0_3 a0_4 a0_5 a0_6 a0_7 a0_8 a0_9 a0_10 a0_11 l0_12)) = some r := H
 have A4 := Aside0.mk A40
 clear A40
 have HC5 := Aside0.mk H
 clear H
 go_enter Try.func17, Try.ntmps17
 go_upto_region 3 with (first | ((with_reducible refine gate_dst (N := 2) rfl ?_); (try (refine gate_guard (by rfl) ?_; dsimp only)); refine box_event ?hg (N := 2) ?hd (cs := #[.int .i64 a0_0, .int .i64 a0_1, .int .i64 a0_2, .int .i64 a0_3, .int .i64 a0_4, .int .i64 a0_5, .int .i64 a0_6, .int .i64 a0_7, .int .i64 a0_8, .int .i64 a0_9, .string a0_10, .int .i64 a0_11, .slice A0_12 l0_12.length c0_12]) (t := 32) ?hr ?_; (case hd => rfl); (case hg => rfl); (case hr => first | (go_simp; done) | (go_simp; rfl)); intro gb710 hg w6 hbox hb; have s_ := step_size_ (gw_ HB) hb hg; have n0_ := Aside0.mk s_.1; have n1_ := Aside0.mk (hbox); have n2_ := Aside0.mk s_.2; clear s_; have n3_ := n2_; clear HB; have HB := n0_; have BK710 := n1_; have GW710 := n2_; have GE710 := n3_; clear n0_ n1_ n2_ n3_; clear hb hbox hg; obtain ⟨hcz7_0, hcz7_1, hcz7_2, hcz7_3, hcz7_4, hcz7_5, hcz7_6, hcz7_7, hcz7_8, hcz7_9, hcz7_10, hcz7_11, hcz7_12⟩ := blk_cells13 BK710.out; obtain ⟨hfz7_0, hfz7_1, hfz7_2, hfz7_3, hfz7_4, hfz7_5, hfz7_6, hfz7_7, hfz7_8, hfz7_9, hfz7_10, hfz7_11, hfz7_12⟩ := blk_frozens13 BK710.out) | ((with_reducible refine gate_callee (f := 34) rfl ?_); refine goesL_ (some 12) rfl rfl Try.func34 (by kernel_rfl) rfl #[.agg #[.int .i64 a0_1, .int .i64 a0_2]] rfl (by (try simp only [List.map_toArray, List.map_cons, List.map_nil]); first | done | rfl | (simp only [List.length_drop, List.length_take]; rfl)) ?_; (with_reducible refine (colloquyref07_May.calls a0_1 a0_2 t711 _ A3.out).mono ?_); rintro e w8 ⟨rfl, hb⟩; refine ⟨_, rfl, ?_⟩; have n0_ := Aside0.mk (blk_below (g := gb710) (bk BK710) hb); have n1_ := Aside0.mk (below_step (gw_ HB) hb); clear BK710; clear HB; have BK710 := n0_; have HB := n1_; clear n0_ n1_; (try clear hb); (try clear hb2); (try clear hk); (try clear hi); obtain ⟨hcz9_0, hcz9_1, hcz9_2, hcz9_3, hcz9_4, hcz9_5, hcz9_6, hcz9_7, hcz9_8, hcz9_9, hcz9_10, hcz9_11, hcz9_12⟩ := blk_cells13 BK710.out; obtain ⟨hfz9_0, hfz9_1, hfz9_2, hfz9_3, hfz9_4, hfz9_5, hfz9_6, hfz9_7, hfz9_8, hfz9_9, hfz9_10, hfz9_11, hfz9_12⟩ := blk_frozens13 BK710.out) | ((with_reducible refine gate_callee (f := 34) rfl ?_); refine goesL_ (some 15) rfl rfl Try.func34 (by kernel_rfl) rfl #[.agg #[.int .i64 a0_3, .int .i64 a0_4]] rfl (by (try simp only [List.map_toArray, List.map_cons, List.map_nil]); first | done | rfl | (simp only [List.length_drop, List.length_take]; rfl)) ?_; (with_reducible refine (colloquyref07_May.calls a0_3 a0_4 t712 _ A4.out).mono ?_); rintro e w10 ⟨rfl, hb⟩; refine ⟨_, rfl, ?_⟩; have n0_ := Aside0.mk (blk_below (g := gb710) (bk BK710) hb); have n1_ := Aside0.mk (below_step (gw_ HB) hb); clear BK710; clear HB; have BK710 := n0_; have HB := n1_; clear n0_ n1_; (try clear hb); (try clear hb2); (try clear hk); (try clear hi)))
 (try simp only [Act.put, List.setIfInBounds_toArray, List.set_cons_zero, List.set_cons_succ])
 go_cut [39] (fun v39 wc => ∃ (kq : Nat) (x39_4 : Bool), v39 = .bool x39_4 ∧ Aside0 (colloquyref09_May.j0 kq a1 x39_4 a0_0 a0_1 a0_2 a0_3 a0_4 a0_5 a0_6 a0_7 a0_8 a0_9 a0_10 a0_11 l0_12 = some r) ∧ Aside0 (kq ≤ k) ∧ Aside0 (wc.heap[gb710]? = some (.cells #[.int .i64 a0_0, .int .i64 a0_1, .int .i64 a0_2, .int .i64 a0_3, .int .i64 a0_4, .int .i64 a0_5, .int .i64 a0_6, .int .i64 a0_7, .int .i64 a0_8, .int .i64 a0_9, .string a0_10, .int .i64 a0_11, (.slice A0_12 l0_12.length c0_12)] 32 (0, 0))) ∧ Aside0 (Below w.heap.size w wc))
 case first =>
  have H := HC5.out
  clear HC5
  by_cases c11 : t711 = true
  ·
   subst c11
   have H1 : (if t712 = true then ((colloquyref07_Cmp.f k a0_3 a0_4 a0_1 a0_2).bind fun t713 => (if t713 > 0 then (colloquyref09_May.j0 k a1 true a0_0 a0_1 a0_2 a0_3 a0_4 a0_5 a0_6 a0_7 a0_8 a0_9 a0_10 a0_11 l0_12) else (if a0_0 < 0 then (colloquyref09_May.j0 k a1 true a0_0 a0_1 a0_2 a0_3 a0_4 a0_5 a0_6 a0_7 a0_8 a0_9 a0_10 a0_11 l0_12) else (colloquyref09_May.j0 k a1 (decide (a0_0 > 3)) a0_0 a0_1 a0_2 a0_3 a0_4 a0_5 a0_6 a0_7 a0_8 a0_9 a0_10 a0_11 l0_12)))) else (colloquyref09_May.j0 k a1 true a0_0 a0_1 a0_2 a0_3 a0_4 a0_5 a0_6 a0_7 a0_8 a0_9 a0_10 a0_11 l0_12)) = some r := by rw [if_pos rfl] at H; exact H
   clear H
   have H := H1
   clear H1
   by_cases c12 : t712 = true
   ·
    subst c12
    have H1 : ((colloquyref07_Cmp.f k a0_3 a0_4 a0_1 a0_2).bind fun t713 => (if t713 > 0 then (colloquyref09_May.j0 k a1 true a0_0 a0_1 a0_2 a0_3 a0_4 a0_5 a0_6 a0_7 a0_8 a0_9 a0_10 a0_11 l0_12) else (if a0_0 < 0 then (colloquyref09_May.j0 k a1 true a0_0 a0_1 a0_2 a0_3 a0_4 a0_5 a0_6 a0_7 a0_8 a0_9 a0_10 a0_11 l0_12) else (colloquyref09_May.j0 k a1 (decide (a0_0 > 3)) a0_0 a0_1 a0_2 a0_3 a0_4 a0_5 a0_6 a0_7 a0_8 a0_9 a0_10 a0_11 l0_12)))) = some r := by rw [if_pos rfl] at H; exact H
    clear H
    have H := H1
    clear H1
    replace H := Option.bind_eq_some_iff.mp H
    obtain ⟨t713, A130, H⟩ := H
    replace H : (if t713 > 0 then (colloquyref09_May.j0 k a1 true a0_0 a0_1 a0_2 a0_3 a0_4 a0_5 a0_6 a0_7 a0_8 a0_9 a0_10 a0_11 l0_12) else (if a0_0 < 0 then (colloquyref09_May.j0 k a1 true a0_0 a0_1 a0_2 a0_3 a0_4 a0_5 a0_6 a0_7 a0_8 a0_9 a0_10 a0_11 l0_12) else (colloquyref09_May.j0 k a1 (decide (a0_0 > 3)) a0_0 a0_1 a0_2 a0_3 a0_4 a0_5 a0_6 a0_7 a0_8 a0_9 a0_10 a0_11 l0_12))) = some r := H
    have A13 := Aside0.mk A130
    clear A130
    by_cases c14 : t713 > 0
    ·
     rw [if_pos c14] at H
     have c14b0 : decide (0 < t713) = true := decide_eq_true c14
     clear c14
     (first | rw [c14b0] | (simp only [i64_w, i32_w]; rw [c14b0]) | skip)
     have H' := Aside0.mk H
     clear H
     obtain ⟨hcz15_0, hcz15_1, hcz15_2, hcz15_3, hcz15_4, hcz15_5, hcz15_6, hcz15_7, hcz15_8, hcz15_9, hcz15_10, hcz15_11, hcz15_12⟩ := blk_cells13 BK710.out
     obtain ⟨hfz15_0, hfz15_1, hfz15_2, hfz15_3, hfz15_4, hfz15_5, hfz15_6, hfz15_7, hfz15_8, hfz15_9, hfz15_10, hfz15_11, hfz15_12⟩ := blk_frozens13 BK710.out
     go_wp2_with (first | (go_at_call 35; (with_reducible refine (colloquyref07_Cmp.calls k a0_3 a0_4 a0_1 a0_2 t713 _ A13.out).mono ?_); rintro e w16 ⟨rfl, hb⟩; have n0_ := Aside0.mk (blk_below (g := gb710) (bk BK710) hb); have n1_ := Aside0.mk (below_step (gw_ HB) hb); clear BK710; clear HB; have BK710 := n0_; have HB := n1_; clear n0_ n1_; (try clear hb); (try clear hb2); (try clear hk); (try clear hi)))
     go_meet
     case rel => exact ⟨_, (true), (by first | rfl | (simp; done) | (simp [*]; done)), H', ⟨by first | omega | exact Nat.le_refl _⟩, ⟨by (with_reducible repeat (first | refine blk_drewN ?_ _ | refine blk_drew ?_ | refine blk_alloc ?_ _)); exact BK710.out⟩, ⟨gw_ HB⟩⟩
    ·
     rw [if_neg c14] at H
     have c14b0 : decide (0 < t713) = false := decide_eq_false c14
     clear c14
     (first | rw [c14b0] | (simp only [i64_w, i32_w]; rw [c14b0]) | skip)
     by_cases c17 : a0_0 < 0
     ·
      rw [if_pos c17] at H
      have c17b0 : decide (a0_0 < 0) = true := decide_eq_true c17
      clear c17
      have H' := Aside0.mk H
      clear H
      obtain ⟨hcz18_0, hcz18_1, hcz18_2, hcz18_3, hcz18_4, hcz18_5, hcz18_6, hcz18_7, hcz18_8, hcz18_9, hcz18_10, hcz18_11, hcz18_12⟩ := blk_cells13 BK710.out
      obtain ⟨hfz18_0, hfz18_1, hfz18_2, hfz18_3, hfz18_4, hfz18_5, hfz18_6, hfz18_7, hfz18_8, hfz18_9, hfz18_10, hfz18_11, hfz18_12⟩ := blk_frozens13 BK710.out
      go_wp2_with (first | (go_at_call 35; (with_reducible refine (colloquyref07_Cmp.calls k a0_3 a0_4 a0_1 a0_2 t713 _ A13.out).mono ?_); rintro e w19 ⟨rfl, hb⟩; have n0_ := Aside0.mk (blk_below (g := gb710) (bk BK710) hb); have n1_ := Aside0.mk (below_step (gw_ HB) hb); clear BK710; clear HB; have BK710 := n0_; have HB := n1_; clear n0_ n1_; (try clear hb); (try clear hb2); (try clear hk); (try clear hi); obtain ⟨hcz20_0, hcz20_1, hcz20_2, hcz20_3, hcz20_4, hcz20_5, hcz20_6, hcz20_7, hcz20_8, hcz20_9, hcz20_10, hcz20_11, hcz20_12⟩ := blk_cells13 BK710.out; have hfz20_0 := blk_frozen BK710.out 0; have hfz20_1 := blk_frozen BK710.out 1; have hfz20_2 := blk_frozen BK710.out 2; have hfz20_3 := blk_frozen BK710.out 3; have hfz20_4 := blk_frozen BK710.out 4; have hfz20_5 := blk_frozen BK710.out 5; have hfz20_6 := blk_frozen BK710.out 6; have hfz20_7 := blk_frozen BK710.out 7; have hfz20_8 := blk_frozen BK710.out 8; have hfz20_9 := blk_frozen BK710.out 9; have hfz20_10 := blk_frozen BK710.out 10; have hfz20_11 := blk_frozen BK710.out 11; have hfz20_12 := blk_frozen BK710.out 12))
      go_meet
      case rel => exact ⟨_, (true), (by first | rfl | (simp; done) | (simp [*]; done)), H', ⟨by first | omega | exact Nat.le_refl _⟩, ⟨by (with_reducible repeat (first | refine blk_drewN ?_ _ | refine blk_drew ?_ | refine blk_alloc ?_ _)); exact BK710.out⟩, ⟨gw_ HB⟩⟩
     ·
      rw [if_neg c17] at H
      have c17b0 : decide (a0_0 < 0) = false := decide_eq_false c17
      clear c17
      have H' := Aside0.mk H
      clear H
      obtain ⟨hcz21_0, hcz21_1, hcz21_2, hcz21_3, hcz21_4, hcz21_5, hcz21_6, hcz21_7, hcz21_8, hcz21_9, hcz21_10, hcz21_11, hcz21_12⟩ := blk_cells13 BK710.out
      obtain ⟨hfz21_0, hfz21_1, hfz21_2, hfz21_3, hfz21_4, hfz21_5, hfz21_6, hfz21_7, hfz21_8, hfz21_9, hfz21_10, hfz21_11, hfz21_12⟩ := blk_frozens13 BK710.out
      go_wp2_with (first | (go_at_call 35; (with_reducible refine (colloquyref07_Cmp.calls k a0_3 a0_4 a0_1 a0_2 t713 _ A13.out).mono ?_); rintro e w22 ⟨rfl, hb⟩; have n0_ := Aside0.mk (blk_below (g := gb710) (bk BK710) hb); have n1_ := Aside0.mk (below_step (gw_ HB) hb); clear BK710; clear HB; have BK710 := n0_; have HB := n1_; clear n0_ n1_; (try clear hb); (try clear hb2); (try clear hk); (try clear hi); obtain ⟨hcz23_0, hcz23_1, hcz23_2, hcz23_3, hcz23_4, hcz23_5, hcz23_6, hcz23_7, hcz23_8, hcz23_9, hcz23_10, hcz23_11, hcz23_12⟩ := blk_cells13 BK710.out; have hfz23_0 := blk_frozen BK710.out 0; have hfz23_1 := blk_frozen BK710.out 1; have hfz23_2 := blk_frozen BK710.out 2; have hfz23_3 := blk_frozen BK710.out 3; have hfz23_4 := blk_frozen BK710.out 4; have hfz23_5 := blk_frozen BK710.out 5; have hfz23_6 := blk_frozen BK710.out 6; have hfz23_7 := blk_frozen BK710.out 7; have hfz23_8 := blk_frozen BK710.out 8; have hfz23_9 := blk_frozen BK710.out 9; have hfz23_10 := blk_frozen BK710.out 10; have hfz23_11 := blk_frozen BK710.out 11; have hfz23_12 := blk_frozen BK710.out 12))
      go_meet
      case rel => exact ⟨_, (decide (a0_0 > 3)), (by first | rfl | (simp; done) | (simp [*]; done)), H', ⟨by first | omega | exact Nat.le_refl _⟩, ⟨by (with_reducible repeat (first | refine blk_drewN ?_ _ | refine blk_drew ?_ | refine blk_alloc ?_ _)); exact BK710.out⟩, ⟨gw_ HB⟩⟩
   ·
    replace c12 := Bool.eq_false_iff.mpr c12
    subst c12
    have H1 : (colloquyref09_May.j0 k a1 true a0_0 a0_1 a0_2 a0_3 a0_4 a0_5 a0_6 a0_7 a0_8 a0_9 a0_10 a0_11 l0_12) = some r := by rw [if_neg (show ¬ (false = true) by decide)] at H; exact H
    clear H
    have H := H1
    clear H1
    have H' := Aside0.mk H
    clear H
    go_wp2
    go_meet
    case rel => exact ⟨_, (true), (by first | rfl | (simp; done) | (simp [*]; done)), H', ⟨by first | omega | exact Nat.le_refl _⟩, ⟨by (with_reducible repeat (first | refine blk_drewN ?_ _ | refine blk_drew ?_ | refine blk_alloc ?_ _)); exact BK710.out⟩, ⟨gw_ HB⟩⟩
  ·
   replace c11 := Bool.eq_false_iff.mpr c11
   subst c11
   have H1 : (colloquyref09_May.j0 k a1 true a0_0 a0_1 a0_2 a0_3 a0_4 a0_5 a0_6 a0_7 a0_8 a0_9 a0_10 a0_11 l0_12) = some r := by rw [if_neg (show ¬ (false = true) by decide)] at H; exact H
   clear H
   have H := H1
   clear H1
   have H' := Aside0.mk H
   clear H
   go_wp2
   go_meet
   case rel => exact ⟨_, (true), (by first | rfl | (simp; done) | (simp [*]; done)), H', ⟨by first | omega | exact Nat.le_refl _⟩, ⟨by (with_reducible repeat (first | refine blk_drewN ?_ _ | refine blk_drew ?_ | refine blk_alloc ?_ _)); exact BK710.out⟩, ⟨gw_ HB⟩⟩
 case rest =>
  clear HC5
  try clear c1
  try clear p2
  try clear c3
  try clear c11
  try clear c12
  try clear c14
  try clear c14b0
  try clear c17
  try clear c17b0
  try clear hcz15_0
  try clear hcz15_1
  try clear hcz15_10
  try clear hcz15_11
  try clear hcz15_12
  try clear hcz15_2
  try clear hcz15_3
  try clear hcz15_4
  try clear hcz15_5
  try clear hcz15_6
  try clear hcz15_7
  try clear hcz15_8
  try clear hcz15_9
  try clear hcz18_0
  try clear hcz18_1
  try clear hcz18_10
  try clear hcz18_11
  try clear hcz18_12
  try clear hcz18_2
  try clear hcz18_3
  try clear hcz18_4
  try clear hcz18_5
  try clear hcz18_6
  try clear hcz18_7
  try clear hcz18_8
  try clear hcz18_9
  try clear hcz20_0
  try clear hcz20_1
  try clear hcz20_10
  try clear hcz20_11
  try clear hcz20_12
  try clear hcz20_2
  try clear hcz20_3
  try clear hcz20_4
  try clear hcz20_5
  try clear hcz20_6
  try clear hcz20_7
  try clear hcz20_8
  try clear hcz20_9
  try clear hcz21_0
  try clear hcz21_1
  try clear hcz21_10
  try clear hcz21_11
  try clear hcz21_12
  try clear hcz21_2
  try clear hcz21_3
  try clear hcz21_4
  try clear hcz21_5
  try clear hcz21_6
  try clear hcz21_7
  try clear hcz21_8
  try clear hcz21_9
  try clear hcz23_0
  try clear hcz23_1
  try clear hcz23_10
  try clear hcz23_11
  try clear hcz23_12
  try clear hcz23_2
  try clear hcz23_3
  try clear hcz23_4
  try clear hcz23_5
  try clear hcz23_6
  try clear hcz23_7
  try clear hcz23_8
  try clear hcz23_9
  try clear hcz7_0
  try clear hcz7_1
  try clear hcz7_10
  try clear hcz7_11
  try clear hcz7_12
  try clear hcz7_2
  try clear hcz7_3
  try clear hcz7_4
  try clear hcz7_5
  try clear hcz7_6
  try clear hcz7_7
  try clear hcz7_8
  try clear hcz7_9
  try clear hcz9_0
  try clear hcz9_1
  try clear hcz9_10
  try clear hcz9_11
  try clear hcz9_12
  try clear hcz9_2
  try clear hcz9_3
  try clear hcz9_4
  try clear hcz9_5
  try clear hcz9_6
  try clear hcz9_7
  try clear hcz9_8
  try clear hcz9_9
  try clear hfz15_0
  try clear hfz15_1
  try clear hfz15_10
  try clear hfz15_11
  try clear hfz15_12
  try clear hfz15_2
  try clear hfz15_3
  try clear hfz15_4
  try clear hfz15_5
  try clear hfz15_6
  try clear hfz15_7
  try clear hfz15_8
  try clear hfz15_9
  try clear hfz18_0
  try clear hfz18_1
  try clear hfz18_10
  try clear hfz18_11
  try clear hfz18_12
  try clear hfz18_2
  try clear hfz18_3
  try clear hfz18_4
  try clear hfz18_5
  try clear hfz18_6
  try clear hfz18_7
  try clear hfz18_8
  try clear hfz18_9
  try clear hfz20_0
  try clear hfz20_1
  try clear hfz20_10
  try clear hfz20_11
  try clear hfz20_12
  try clear hfz20_2
  try clear hfz20_3
  try clear hfz20_4
  try clear hfz20_5
  try clear hfz20_6
  try clear hfz20_7
  try clear hfz20_8
  try clear hfz20_9
  try clear hfz21_0
  try clear hfz21_1
  try clear hfz21_10
  try clear hfz21_11
  try clear hfz21_12
  try clear hfz21_2
  try clear hfz21_3
  try clear hfz21_4
  try clear hfz21_5
  try clear hfz21_6
  try clear hfz21_7
  try clear hfz21_8
  try clear hfz21_9
  try clear hfz23_0
  try clear hfz23_1
  try clear hfz23_10
  try clear hfz23_11
  try clear hfz23_12
  try clear hfz23_2
  try clear hfz23_3
  try clear hfz23_4
  try clear hfz23_5
  try clear hfz23_6
  try clear hfz23_7
  try clear hfz23_8
  try clear hfz23_9
  try clear hfz7_0
  try clear hfz7_1
  try clear hfz7_10
  try clear hfz7_11
  try clear hfz7_12
  try clear hfz7_2
  try clear hfz7_3
  try clear hfz7_4
  try clear hfz7_5
  try clear hfz7_6
  try clear hfz7_7
  try clear hfz7_8
  try clear hfz7_9
  try clear hfz9_0
  try clear hfz9_1
  try clear hfz9_10
  try clear hfz9_11
  try clear hfz9_12
  try clear hfz9_2
  try clear hfz9_3
  try clear hfz9_4
  try clear hfz9_5
  try clear hfz9_6
  try clear hfz9_7
  try clear hfz9_8
  try clear hfz9_9
  obtain ⟨kq, x39_4, rfl, HA, HJ4, BK710, HB⟩ := hcut
  cases kq with
  | zero => exact absurd HA.out (by simp [colloquyref09_May.j0])
  | succ kj4 =>
   have H := HA.out
   clear HA
   simp only [colloquyref09_May.j0] at H
   by_cases c24 : x39_4 = true
   ·
    subst c24
    have H1 : (some false) = some r := by rw [if_pos rfl] at H; exact H
    clear H
    have H := H1
    clear H1
    obtain rfl := Option.some.inj H
    go_wp2
    go_ret
    exact ⟨by first | rfl | (simp [errW_none, errW_some] <;> rfl) | (simp [*, errW_none, errW_some] <;> rfl), gw_ HB⟩
   ·
    replace c24 := Bool.eq_false_iff.mpr c24
    subst c24
    have H1 : (if a0_0 = 0 then (if (a0_3 == 0 && (a0_4 == 0)) = true then (if (a0_5 == 0 && (a0_6 == 0 && (a0_7 == 0 && (a0_8 == 0 && (a0_9 == 0 && (a0_10.toList == ([] : List UInt8))))))) = true then (if a0_11 = 0 then (some ((l0_12.length : Int) == 0)) else (some false)) else (some false)) else (some false)) else ((colloquyref04_May.f kj4 a0_5 a0_6 a0_7 a0_8 a0_9 a0_10).bind fun t714 => ((colloquyref06_May.f kj4 a0_11 l0_12 a1).bind fun t715 => ((colloquyref09_good.f a0_3 a0_4).bind fun t716 => (if t714 = true then (if t715 = true then (if t716 = true then (some true) else (some (a0_0 == 3))) else (some false)) else (some false)))))) = some r := by rw [if_neg (show ¬ (false = true) by decide)] at H; exact H
    clear H
    have H := H1
    clear H1
    by_cases c25 : a0_0 = 0
    ·
     rw [if_pos c25] at H
     have c25b0 : (a0_0 == 0) = true := beq_iff_eq.mpr c25
     have c25b1 : (a0_0 != 0) = false := bne_eq_false_iff_eq.mpr c25
     clear c25
     by_cases c26 : (a0_3 == 0 && (a0_4 == 0)) = true
     ·
      rw [if_pos c26] at H
      have c26b0 : (a0_3 == 0 && (a0_4 == 0)) = true := c26
      (try (have c26b1 : decide (a0_3 = 0 && (a0_4 == 0)) = true := by simpa using c26))
      (try (have c26b2 : (a0_3 == 0 && (a0_4 == 0)) = true := by simpa using c26))
      clear c26
      by_cases c27 : (a0_5 == 0 && (a0_6 == 0 && (a0_7 == 0 && (a0_8 == 0 && (a0_9 == 0 && (a0_10.toList == ([] : List UInt8))))))) = true
      ·
       rw [if_pos c27] at H
       have c27b0 : (a0_5 == 0 && (a0_6 == 0 && (a0_7 == 0 && (a0_8 == 0 && (a0_9 == 0 && (a0_10.toList == ([] : List UInt8))))))) = true := c27
       have c27bE : (a0_5 == 0 && (a0_6 == 0 && (a0_7 == 0 && (a0_8 == 0 && (a0_9 == 0 && a0_10.toList.isEmpty))))) = true := by simp only [isEmpty_beq]; exact c27
       (try (have c27b1 : decide (a0_5 = 0 && (a0_6 == 0 && (a0_7 == 0 && (a0_8 == 0 && (a0_9 == 0 && (a0_10.toList == ([] : List UInt8))))))) = true := by simpa using c27))
       (try (have c27b2 : (a0_5 == 0 && (a0_6 == 0 && (a0_7 == 0 && (a0_8 == 0 && (a0_9 == 0 && (a0_10.toList == ([] : List UInt8))))))) = true := by simpa using c27))
       clear c27
       by_cases c28 : a0_11 = 0
       ·
        rw [if_pos c28] at H
        have c28b0 : (a0_11 == 0) = true := beq_iff_eq.mpr c28
        have c28b1 : (a0_11 != 0) = false := bne_eq_false_iff_eq.mpr c28
        clear c28
        obtain rfl := Option.some.inj H
        obtain ⟨hcz29_0, hcz29_1, hcz29_2, hcz29_3, hcz29_4, hcz29_5, hcz29_6, hcz29_7, hcz29_8, hcz29_9, hcz29_10, hcz29_11, hcz29_12⟩ := blk_cells13 BK710.out
        obtain ⟨hfz29_0, hfz29_1, hfz29_2, hfz29_3, hfz29_4, hfz29_5, hfz29_6, hfz29_7, hfz29_8, hfz29_9, hfz29_10, hfz29_11, hfz29_12⟩ := blk_frozens13 BK710.out
        go_wp2
        go_ret
        exact ⟨by first | rfl | (simp [errW_none, errW_some] <;> rfl) | (simp [*, errW_none, errW_some] <;> rfl), gw_ HB⟩
       ·
        rw [if_neg c28] at H
        have c28b0 : (a0_11 == 0) = false := beq_eq_false_iff_ne.mpr c28
        have c28b1 : (a0_11 != 0) = true := bne_iff_ne.mpr c28
        obtain rfl := Option.some.inj H
        obtain ⟨hcz30_0, hcz30_1, hcz30_2, hcz30_3, hcz30_4, hcz30_5, hcz30_6, hcz30_7, hcz30_8, hcz30_9, hcz30_10, hcz30_11, hcz30_12⟩ := blk_cells13 BK710.out
        obtain ⟨hfz30_0, hfz30_1, hfz30_2, hfz30_3, hfz30_4, hfz30_5, hfz30_6, hfz30_7, hfz30_8, hfz30_9, hfz30_10, hfz30_11, hfz30_12⟩ := blk_frozens13 BK710.out
        go_wp2
        go_ret
        exact ⟨by first | rfl | (simp [errW_none, errW_some] <;> rfl) | (simp [*, errW_none, errW_some] <;> rfl), gw_ HB⟩
      ·
       rw [if_neg c27] at H
       have c27b0 : (a0_5 == 0 && (a0_6 == 0 && (a0_7 == 0 && (a0_8 == 0 && (a0_9 == 0 && (a0_10.toList == ([] : List UInt8))))))) = false := by simpa using c27
       have c27bE : (a0_5 == 0 && (a0_6 == 0 && (a0_7 == 0 && (a0_8 == 0 && (a0_9 == 0 && a0_10.toList.isEmpty))))) = false := by simp only [isEmpty_beq]; exact by simpa using c27
       (try (have c27b1 : decide (a0_5 = 0 && (a0_6 == 0 && (a0_7 == 0 && (a0_8 == 0 && (a0_9 == 0 && (a0_10.toList == ([] : List UInt8))))))) = false := by simpa using c27))
       (try (have c27b2 : (a0_5 == 0 && (a0_6 == 0 && (a0_7 == 0 && (a0_8 == 0 && (a0_9 == 0 && (a0_10.toList == ([] : List UInt8))))))) = false := by simpa using c27))
       (try (have c27b3 : ¬ (a0_5 = 0 && (a0_6 == 0 && (a0_7 == 0 && (a0_8 == 0 && (a0_9 == 0 && (a0_10.toList == ([] : List UInt8))))))) := by simpa using c27))
       clear c27
       obtain rfl := Option.some.inj H
       obtain ⟨hcz31_0, hcz31_1, hcz31_2, hcz31_3, hcz31_4, hcz31_5, hcz31_6, hcz31_7, hcz31_8, hcz31_9, hcz31_10, hcz31_11, hcz31_12⟩ := blk_cells13 BK710.out
       obtain ⟨hfz31_0, hfz31_1, hfz31_2, hfz31_3, hfz31_4, hfz31_5, hfz31_6, hfz31_7, hfz31_8, hfz31_9, hfz31_10, hfz31_11, hfz31_12⟩ := blk_frozens13 BK710.out
       go_wp2
       go_ret
       exact ⟨by first | rfl | (simp [errW_none, errW_some] <;> rfl) | (simp [*, errW_none, errW_some] <;> rfl), gw_ HB⟩
     ·
      rw [if_neg c26] at H
      have c26b0 : (a0_3 == 0 && (a0_4 == 0)) = false := by simpa using c26
      (try (have c26b1 : decide (a0_3 = 0 && (a0_4 == 0)) = false := by simpa using c26))
      (try (have c26b2 : (a0_3 == 0 && (a0_4 == 0)) = false := by simpa using c26))
      (try (have c26b3 : ¬ (a0_3 = 0 && (a0_4 == 0)) := by simpa using c26))
      clear c26
      obtain rfl := Option.some.inj H
      obtain ⟨hcz32_0, hcz32_1, hcz32_2, hcz32_3, hcz32_4, hcz32_5, hcz32_6, hcz32_7, hcz32_8, hcz32_9, hcz32_10, hcz32_11, hcz32_12⟩ := blk_cells13 BK710.out
      obtain ⟨hfz32_0, hfz32_1, hfz32_2, hfz32_3, hfz32_4, hfz32_5, hfz32_6, hfz32_7, hfz32_8, hfz32_9, hfz32_10, hfz32_11, hfz32_12⟩ := blk_frozens13 BK710.out
      go_wp2
      go_ret
      exact ⟨by first | rfl | (simp [errW_none, errW_some] <;> rfl) | (simp [*, errW_none, errW_some] <;> rfl), gw_ HB⟩
    ·
     rw [if_neg c25] at H
     have c25b0 : (a0_0 == 0) = false := beq_eq_false_iff_ne.mpr c25
     have c25b1 : (a0_0 != 0) = true := bne_iff_ne.mpr c25
     replace H := Option.bind_eq_some_iff.mp H
     obtain ⟨t714, A330, H⟩ := H
     replace H : ((colloquyref06_May.f kj4 a0_11 l0_12 a1).bind fun t715 => ((colloquyref09_good.f a0_3 a0_4).bind fun t716 => (if t714 = true then (if t715 = true then (if t716 = true then (some true) else (some (a0_0 == 3))) else (some false)) else (some false)))) = some r := H
     have A33 := Aside0.mk A330
     clear A330
     replace H := Option.bind_eq_some_iff.mp H
     obtain ⟨t715, A340, H⟩ := H
     replace H : ((colloquyref09_good.f a0_3 a0_4).bind fun t716 => (if t714 = true then (if t715 = true then (if t716 = true then (some true) else (some (a0_0 == 3))) else (some false)) else (some false))) = some r := H
     have A34 := Aside0.mk A340
     clear A340
     replace H := Option.bind_eq_some_iff.mp H
     obtain ⟨t716, A350, H⟩ := H
     replace H : (if t714 = true then (if t715 = true then (if t716 = true then (some true) else (some (a0_0 == 3))) else (some false)) else (some false)) = some r := H
     have A35 := Aside0.mk A350
     clear A350
     by_cases c36 : t714 = true
     ·
      subst c36
      have H1 : (if t715 = true then (if t716 = true then (some true) else (some (a0_0 == 3))) else (some false)) = some r := by rw [if_pos rfl] at H; exact H
      clear H
      have H := H1
      clear H1
      by_cases c37 : t715 = true
      ·
       subst c37
       have H1 : (if t716 = true then (some true) else (some (a0_0 == 3))) = some r := by rw [if_pos rfl] at H; exact H
       clear H
       have H := H1
       clear H1
       by_cases c38 : t716 = true
       ·
        subst c38
        have H1 : (some true) = some r := by rw [if_pos rfl] at H; exact H
        clear H
        have H := H1
        clear H1
        obtain rfl := Option.some.inj H
        obtain ⟨hcz39_0, hcz39_1, hcz39_2, hcz39_3, hcz39_4, hcz39_5, hcz39_6, hcz39_7, hcz39_8, hcz39_9, hcz39_10, hcz39_11, hcz39_12⟩ := blk_cells13 BK710.out
        obtain ⟨hfz39_0, hfz39_1, hfz39_2, hfz39_3, hfz39_4, hfz39_5, hfz39_6, hfz39_7, hfz39_8, hfz39_9, hfz39_10, hfz39_11, hfz39_12⟩ := blk_frozens13 BK710.out
        go_wp2_with (first | ((with_reducible refine gate_callee (f := 36) rfl ?_); refine goesL_ (some 68) rfl rfl Try.func36 (by kernel_rfl) rfl #[.agg #[.int .i64 a0_5, .int .i64 a0_6, .int .i64 a0_7, .int .i64 a0_8, .int .i64 a0_9, .string a0_10]] rfl (by (try simp only [List.map_toArray, List.map_cons, List.map_nil]); first | done | rfl | (simp only [List.length_drop, List.length_take]; rfl)) ?_; (with_reducible refine (colloquyref04_May.calls kj4 a0_5 a0_6 a0_7 a0_8 a0_9 a0_10 true _ A33.out).mono ?_); rintro e w40 ⟨rfl, hb⟩; refine ⟨_, rfl, ?_⟩; have n0_ := Aside0.mk (blk_below (g := gb710) (bk BK710) hb); have n1_ := Aside0.mk (below_step (gw_ HB) hb); clear BK710; clear HB; have BK710 := n0_; have HB := n1_; clear n0_ n1_; (try clear hb); (try clear hb2); (try clear hk); (try clear hi); obtain ⟨hcz41_0, hcz41_1, hcz41_2, hcz41_3, hcz41_4, hcz41_5, hcz41_6, hcz41_7, hcz41_8, hcz41_9, hcz41_10, hcz41_11, hcz41_12⟩ := blk_cells13 BK710.out; obtain ⟨hfz41_0, hfz41_1, hfz41_2, hfz41_3, hfz41_4, hfz41_5, hfz41_6, hfz41_7, hfz41_8, hfz41_9, hfz41_10, hfz41_11, hfz41_12⟩ := blk_frozens13 BK710.out) | ((with_reducible refine gate_callee (f := 37) rfl ?_); refine goesL_ (some 72) rfl rfl Try.func37 (by kernel_rfl) rfl #[.agg #[.int .i64 a0_11, .slice A0_12 l0_12.length c0_12], .int .i64 a1] rfl (by (try simp only [List.map_toArray, List.map_cons, List.map_nil]); first | done | rfl | (simp only [List.length_drop, List.length_take]; rfl)) ?_; (with_reducible refine (colloquyref06_May.calls kj4 a0_11 _ _ l0_12 a1 true _ ?side1 ?side2 A34.out).mono ?_); (case side1 => repeat (first | exact (Kd.C_below HR0_12.out HB.out) | (with_reducible refine Kd.C_alloc ?_ _) | (with_reducible refine Kd.C_drewN ?_ _) | (with_reducible refine Kd.C_drew ?_))); (case side2 => exact HC0_12.out); rintro e w42 ⟨rfl, hb⟩; refine ⟨_, rfl, ?_⟩; have n0_ := Aside0.mk (blk_below (g := gb710) (bk BK710) hb); have n1_ := Aside0.mk (below_step (gw_ HB) hb); clear BK710; clear HB; have BK710 := n0_; have HB := n1_; clear n0_ n1_; (try clear hb); (try clear hb2); (try clear hk); (try clear hi); obtain ⟨hcz43_0, hcz43_1, hcz43_2, hcz43_3, hcz43_4, hcz43_5, hcz43_6, hcz43_7, hcz43_8, hcz43_9, hcz43_10, hcz43_11, hcz43_12⟩ := blk_cells13 BK710.out; obtain ⟨hfz43_0, hfz43_1, hfz43_2, hfz43_3, hfz43_4, hfz43_5, hfz43_6, hfz43_7, hfz43_8, hfz43_9, hfz43_10, hfz43_11, hfz43_12⟩ := blk_frozens13 BK710.out) | ((with_reducible refine gate_callee (f := 38) rfl ?_); refine goesL_ (some 75) rfl rfl Try.func38 (by kernel_rfl) rfl #[.agg #[.int .i64 a0_3, .int .i64 a0_4]] rfl (by (try simp only [List.map_toArray, List.map_cons, List.map_nil]); first | done | rfl | (simp only [List.length_drop, List.length_take]; rfl)) ?_; (with_reducible refine (colloquyref09_good.calls a0_3 a0_4 true _ A35.out).mono ?_); rintro e w44 ⟨rfl, hb⟩; refine ⟨_, rfl, ?_⟩; have n0_ := Aside0.mk (blk_below (g := gb710) (bk BK710) hb); have n1_ := Aside0.mk (below_step (gw_ HB) hb); clear BK710; clear HB; have BK710 := n0_; have HB := n1_; clear n0_ n1_; (try clear hb); (try clear hb2); (try clear hk); (try clear hi)))
        go_ret
        exact ⟨by first | rfl | (simp [errW_none, errW_some] <;> rfl) | (simp [*, errW_none, errW_some] <;> rfl), gw_ HB⟩
       ·
        replace c38 := Bool.eq_false_iff.mpr c38
        subst c38
        have H1 : (some (a0_0 == 3)) = some r := by rw [if_neg (show ¬ (false = true) by decide)] at H; exact H
        clear H
        have H := H1
        clear H1
        obtain rfl := Option.some.inj H
        obtain ⟨hcz45_0, hcz45_1, hcz45_2, hcz45_3, hcz45_4, hcz45_5, hcz45_6, hcz45_7, hcz45_8, hcz45_9, hcz45_10, hcz45_11, hcz45_12⟩ := blk_cells13 BK710.out
        obtain ⟨hfz45_0, hfz45_1, hfz45_2, hfz45_3, hfz45_4, hfz45_5, hfz45_6, hfz45_7, hfz45_8, hfz45_9, hfz45_10, hfz45_11, hfz45_12⟩ := blk_frozens13 BK710.out
        go_wp2_with (first | ((with_reducible refine gate_callee (f := 36) rfl ?_); refine goesL_ (some 68) rfl rfl Try.func36 (by kernel_rfl) rfl #[.agg #[.int .i64 a0_5, .int .i64 a0_6, .int .i64 a0_7, .int .i64 a0_8, .int .i64 a0_9, .string a0_10]] rfl (by (try simp only [List.map_toArray, List.map_cons, List.map_nil]); first | done | rfl | (simp only [List.length_drop, List.length_take]; rfl)) ?_; (with_reducible refine (colloquyref04_May.calls kj4 a0_5 a0_6 a0_7 a0_8 a0_9 a0_10 true _ A33.out).mono ?_); rintro e w46 ⟨rfl, hb⟩; refine ⟨_, rfl, ?_⟩; have n0_ := Aside0.mk (blk_below (g := gb710) (bk BK710) hb); have n1_ := Aside0.mk (below_step (gw_ HB) hb); clear BK710; clear HB; have BK710 := n0_; have HB := n1_; clear n0_ n1_; (try clear hb); (try clear hb2); (try clear hk); (try clear hi); obtain ⟨hcz47_0, hcz47_1, hcz47_2, hcz47_3, hcz47_4, hcz47_5, hcz47_6, hcz47_7, hcz47_8, hcz47_9, hcz47_10, hcz47_11, hcz47_12⟩ := blk_cells13 BK710.out; obtain ⟨hfz47_0, hfz47_1, hfz47_2, hfz47_3, hfz47_4, hfz47_5, hfz47_6, hfz47_7, hfz47_8, hfz47_9, hfz47_10, hfz47_11, hfz47_12⟩ := blk_frozens13 BK710.out) | ((with_reducible refine gate_callee (f := 37) rfl ?_); refine goesL_ (some 72) rfl rfl Try.func37 (by kernel_rfl) rfl #[.agg #[.int .i64 a0_11, .slice A0_12 l0_12.length c0_12], .int .i64 a1] rfl (by (try simp only [List.map_toArray, List.map_cons, List.map_nil]); first | done | rfl | (simp only [List.length_drop, List.length_take]; rfl)) ?_; (with_reducible refine (colloquyref06_May.calls kj4 a0_11 _ _ l0_12 a1 true _ ?side1 ?side2 A34.out).mono ?_); (case side1 => repeat (first | exact (Kd.C_below HR0_12.out HB.out) | (with_reducible refine Kd.C_alloc ?_ _) | (with_reducible refine Kd.C_drewN ?_ _) | (with_reducible refine Kd.C_drew ?_))); (case side2 => exact HC0_12.out); rintro e w48 ⟨rfl, hb⟩; refine ⟨_, rfl, ?_⟩; have n0_ := Aside0.mk (blk_below (g := gb710) (bk BK710) hb); have n1_ := Aside0.mk (below_step (gw_ HB) hb); clear BK710; clear HB; have BK710 := n0_; have HB := n1_; clear n0_ n1_; (try clear hb); (try clear hb2); (try clear hk); (try clear hi); obtain ⟨hcz49_0, hcz49_1, hcz49_2, hcz49_3, hcz49_4, hcz49_5, hcz49_6, hcz49_7, hcz49_8, hcz49_9, hcz49_10, hcz49_11, hcz49_12⟩ := blk_cells13 BK710.out; obtain ⟨hfz49_0, hfz49_1, hfz49_2, hfz49_3, hfz49_4, hfz49_5, hfz49_6, hfz49_7, hfz49_8, hfz49_9, hfz49_10, hfz49_11, hfz49_12⟩ := blk_frozens13 BK710.out) | ((with_reducible refine gate_callee (f := 38) rfl ?_); refine goesL_ (some 75) rfl rfl Try.func38 (by kernel_rfl) rfl #[.agg #[.int .i64 a0_3, .int .i64 a0_4]] rfl (by (try simp only [List.map_toArray, List.map_cons, List.map_nil]); first | done | rfl | (simp only [List.length_drop, List.length_take]; rfl)) ?_; (with_reducible refine (colloquyref09_good.calls a0_3 a0_4 false _ A35.out).mono ?_); rintro e w50 ⟨rfl, hb⟩; refine ⟨_, rfl, ?_⟩; have n0_ := Aside0.mk (blk_below (g := gb710) (bk BK710) hb); have n1_ := Aside0.mk (below_step (gw_ HB) hb); clear BK710; clear HB; have BK710 := n0_; have HB := n1_; clear n0_ n1_; (try clear hb); (try clear hb2); (try clear hk); (try clear hi); obtain ⟨hcz51_0, hcz51_1, hcz51_2, hcz51_3, hcz51_4, hcz51_5, hcz51_6, hcz51_7, hcz51_8, hcz51_9, hcz51_10, hcz51_11, hcz51_12⟩ := blk_cells13 BK710.out; have hfz51_0 := blk_frozen BK710.out 0; have hfz51_1 := blk_frozen BK710.out 1; have hfz51_2 := blk_frozen BK710.out 2; have hfz51_3 := blk_frozen BK710.out 3; have hfz51_4 := blk_frozen BK710.out 4; have hfz51_5 := blk_frozen BK710.out 5; have hfz51_6 := blk_frozen BK710.out 6; have hfz51_7 := blk_frozen BK710.out 7; have hfz51_8 := blk_frozen BK710.out 8; have hfz51_9 := blk_frozen BK710.out 9; have hfz51_10 := blk_frozen BK710.out 10; have hfz51_11 := blk_frozen BK710.out 11; have hfz51_12 := blk_frozen BK710.out 12))
        go_ret
        exact ⟨by first | rfl | (simp [errW_none, errW_some] <;> rfl) | (simp [*, errW_none, errW_some] <;> rfl), gw_ HB⟩
      ·
       replace c37 := Bool.eq_false_iff.mpr c37
       subst c37
       have H1 : (some false) = some r := by rw [if_neg (show ¬ (false = true) by decide)] at H; exact H
       clear H
       have H := H1
       clear H1
       obtain rfl := Option.some.inj H
       obtain ⟨hcz52_0, hcz52_1, hcz52_2, hcz52_3, hcz52_4, hcz52_5, hcz52_6, hcz52_7, hcz52_8, hcz52_9, hcz52_10, hcz52_11, hcz52_12⟩ := blk_cells13 BK710.out
       obtain ⟨hfz52_0, hfz52_1, hfz52_2, hfz52_3, hfz52_4, hfz52_5, hfz52_6, hfz52_7, hfz52_8, hfz52_9, hfz52_10, hfz52_11, hfz52_12⟩ := blk_frozens13 BK710.out
       go_wp2_with (first | ((with_reducible refine gate_callee (f := 36) rfl ?_); refine goesL_ (some 68) rfl rfl Try.func36 (by kernel_rfl) rfl #[.agg #[.int .i64 a0_5, .int .i64 a0_6, .int .i64 a0_7, .int .i64 a0_8, .int .i64 a0_9, .string a0_10]] rfl (by (try simp only [List.map_toArray, List.map_cons, List.map_nil]); first | done | rfl | (simp only [List.length_drop, List.length_take]; rfl)) ?_; (with_reducible refine (colloquyref04_May.calls kj4 a0_5 a0_6 a0_7 a0_8 a0_9 a0_10 true _ A33.out).mono ?_); rintro e w53 ⟨rfl, hb⟩; refine ⟨_, rfl, ?_⟩; have n0_ := Aside0.mk (blk_below (g := gb710) (bk BK710) hb); have n1_ := Aside0.mk (below_step (gw_ HB) hb); clear BK710; clear HB; have BK710 := n0_; have HB := n1_; clear n0_ n1_; (try clear hb); (try clear hb2); (try clear hk); (try clear hi); obtain ⟨hcz54_0, hcz54_1, hcz54_2, hcz54_3, hcz54_4, hcz54_5, hcz54_6, hcz54_7, hcz54_8, hcz54_9, hcz54_10, hcz54_11, hcz54_12⟩ := blk_cells13 BK710.out; obtain ⟨hfz54_0, hfz54_1, hfz54_2, hfz54_3, hfz54_4, hfz54_5, hfz54_6, hfz54_7, hfz54_8, hfz54_9, hfz54_10, hfz54_11, hfz54_12⟩ := blk_frozens13 BK710.out) | ((with_reducible refine gate_callee (f := 37) rfl ?_); refine goesL_ (some 72) rfl rfl Try.func37 (by kernel_rfl) rfl #[.agg #[.int .i64 a0_11, .slice A0_12 l0_12.length c0_12], .int .i64 a1] rfl (by (try simp only [List.map_toArray, List.map_cons, List.map_nil]); first | done | rfl | (simp only [List.length_drop, List.length_take]; rfl)) ?_; (with_reducible refine (colloquyref06_May.calls kj4 a0_11 _ _ l0_12 a1 false _ ?side1 ?side2 A34.out).mono ?_); (case side1 => repeat (first | exact (Kd.C_below HR0_12.out HB.out) | (with_reducible refine Kd.C_alloc ?_ _) | (with_reducible refine Kd.C_drewN ?_ _) | (with_reducible refine Kd.C_drew ?_))); (case side2 => exact HC0_12.out); rintro e w55 ⟨rfl, hb⟩; refine ⟨_, rfl, ?_⟩; have n0_ := Aside0.mk (blk_below (g := gb710) (bk BK710) hb); have n1_ := Aside0.mk (below_step (gw_ HB) hb); clear BK710; clear HB; have BK710 := n0_; have HB := n1_; clear n0_ n1_; (try clear hb); (try clear hb2); (try clear hk); (try clear hi); obtain ⟨hcz56_0, hcz56_1, hcz56_2, hcz56_3, hcz56_4, hcz56_5, hcz56_6, hcz56_7, hcz56_8, hcz56_9, hcz56_10, hcz56_11, hcz56_12⟩ := blk_cells13 BK710.out; obtain ⟨hfz56_0, hfz56_1, hfz56_2, hfz56_3, hfz56_4, hfz56_5, hfz56_6, hfz56_7, hfz56_8, hfz56_9, hfz56_10, hfz56_11, hfz56_12⟩ := blk_frozens13 BK710.out) | ((with_reducible refine gate_callee (f := 38) rfl ?_); refine goesL_ (some 75) rfl rfl Try.func38 (by kernel_rfl) rfl #[.agg #[.int .i64 a0_3, .int .i64 a0_4]] rfl (by (try simp only [List.map_toArray, List.map_cons, List.map_nil]); first | done | rfl | (simp only [List.length_drop, List.length_take]; rfl)) ?_; (with_reducible refine (colloquyref09_good.calls a0_3 a0_4 t716 _ A35.out).mono ?_); rintro e w57 ⟨rfl, hb⟩; refine ⟨_, rfl, ?_⟩; have n0_ := Aside0.mk (blk_below (g := gb710) (bk BK710) hb); have n1_ := Aside0.mk (below_step (gw_ HB) hb); clear BK710; clear HB; have BK710 := n0_; have HB := n1_; clear n0_ n1_; (try clear hb); (try clear hb2); (try clear hk); (try clear hi)))
       go_ret
       exact ⟨by first | rfl | (simp [errW_none, errW_some] <;> rfl) | (simp [*, errW_none, errW_some] <;> rfl), gw_ HB⟩
     ·
      replace c36 := Bool.eq_false_iff.mpr c36
      subst c36
      have H1 : (some false) = some r := by rw [if_neg (show ¬ (false = true) by decide)] at H; exact H
      clear H
      have H := H1
      clear H1
      obtain rfl := Option.some.inj H
      obtain ⟨hcz58_0, hcz58_1, hcz58_2, hcz58_3, hcz58_4, hcz58_5, hcz58_6, hcz58_7, hcz58_8, hcz58_9, hcz58_10, hcz58_11, hcz58_12⟩ := blk_cells13 BK710.out
      obtain ⟨hfz58_0, hfz58_1, hfz58_2, hfz58_3, hfz58_4, hfz58_5, hfz58_6, hfz58_7, hfz58_8, hfz58_9, hfz58_10, hfz58_11, hfz58_12⟩ := blk_frozens13 BK710.out
      go_wp2_with (first | ((with_reducible refine gate_callee (f := 36) rfl ?_); refine goesL_ (some 68) rfl rfl Try.func36 (by kernel_rfl) rfl #[.agg #[.int .i64 a0_5, .int .i64 a0_6, .int .i64 a0_7, .int .i64 a0_8, .int .i64 a0_9, .string a0_10]] rfl (by (try simp only [List.map_toArray, List.map_cons, List.map_nil]); first | done | rfl | (simp only [List.length_drop, List.length_take]; rfl)) ?_; (with_reducible refine (colloquyref04_May.calls kj4 a0_5 a0_6 a0_7 a0_8 a0_9 a0_10 false _ A33.out).mono ?_); rintro e w59 ⟨rfl, hb⟩; refine ⟨_, rfl, ?_⟩; have n0_ := Aside0.mk (blk_below (g := gb710) (bk BK710) hb); have n1_ := Aside0.mk (below_step (gw_ HB) hb); clear BK710; clear HB; have BK710 := n0_; have HB := n1_; clear n0_ n1_; (try clear hb); (try clear hb2); (try clear hk); (try clear hi); obtain ⟨hcz60_0, hcz60_1, hcz60_2, hcz60_3, hcz60_4, hcz60_5, hcz60_6, hcz60_7, hcz60_8, hcz60_9, hcz60_10, hcz60_11, hcz60_12⟩ := blk_cells13 BK710.out; obtain ⟨hfz60_0, hfz60_1, hfz60_2, hfz60_3, hfz60_4, hfz60_5, hfz60_6, hfz60_7, hfz60_8, hfz60_9, hfz60_10, hfz60_11, hfz60_12⟩ := blk_frozens13 BK710.out) | ((with_reducible refine gate_callee (f := 37) rfl ?_); refine goesL_ (some 72) rfl rfl Try.func37 (by kernel_rfl) rfl #[.agg #[.int .i64 a0_11, .slice A0_12 l0_12.length c0_12], .int .i64 a1] rfl (by (try simp only [List.map_toArray, List.map_cons, List.map_nil]); first | done | rfl | (simp only [List.length_drop, List.length_take]; rfl)) ?_; (with_reducible refine (colloquyref06_May.calls kj4 a0_11 _ _ l0_12 a1 t715 _ ?side1 ?side2 A34.out).mono ?_); (case side1 => repeat (first | exact (Kd.C_below HR0_12.out HB.out) | (with_reducible refine Kd.C_alloc ?_ _) | (with_reducible refine Kd.C_drewN ?_ _) | (with_reducible refine Kd.C_drew ?_))); (case side2 => exact HC0_12.out); rintro e w61 ⟨rfl, hb⟩; refine ⟨_, rfl, ?_⟩; have n0_ := Aside0.mk (blk_below (g := gb710) (bk BK710) hb); have n1_ := Aside0.mk (below_step (gw_ HB) hb); clear BK710; clear HB; have BK710 := n0_; have HB := n1_; clear n0_ n1_; (try clear hb); (try clear hb2); (try clear hk); (try clear hi); obtain ⟨hcz62_0, hcz62_1, hcz62_2, hcz62_3, hcz62_4, hcz62_5, hcz62_6, hcz62_7, hcz62_8, hcz62_9, hcz62_10, hcz62_11, hcz62_12⟩ := blk_cells13 BK710.out; obtain ⟨hfz62_0, hfz62_1, hfz62_2, hfz62_3, hfz62_4, hfz62_5, hfz62_6, hfz62_7, hfz62_8, hfz62_9, hfz62_10, hfz62_11, hfz62_12⟩ := blk_frozens13 BK710.out) | ((with_reducible refine gate_callee (f := 38) rfl ?_); refine goesL_ (some 75) rfl rfl Try.func38 (by kernel_rfl) rfl #[.agg #[.int .i64 a0_3, .int .i64 a0_4]] rfl (by (try simp only [List.map_toArray, List.map_cons, List.map_nil]); first | done | rfl | (simp only [List.length_drop, List.length_take]; rfl)) ?_; (with_reducible refine (colloquyref09_good.calls a0_3 a0_4 t716 _ A35.out).mono ?_); rintro e w63 ⟨rfl, hb⟩; refine ⟨_, rfl, ?_⟩; have n0_ := Aside0.mk (blk_below (g := gb710) (bk BK710) hb); have n1_ := Aside0.mk (below_step (gw_ HB) hb); clear BK710; clear HB; have BK710 := n0_; have HB := n1_; clear n0_ n1_; (try clear hb); (try clear hb2); (try clear hk); (try clear hi)))
      go_ret
      exact ⟨by first | rfl | (simp [errW_none, errW_some] <;> rfl) | (simp [*, errW_none, errW_some] <;> rfl), gw_ HB⟩

end Go.Proofs.Ytkijkdifmoifaaa.P
