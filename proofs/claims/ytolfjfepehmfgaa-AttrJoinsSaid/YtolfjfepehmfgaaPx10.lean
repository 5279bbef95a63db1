/- Plain Lean functions and their contracts over the translation, written by a program of this session (myprint.py, over the kit's print); no condition but each contract's own. -/
import Derived.Test.YtolfjfepehmfgaaPx0
import Derived.Test.YtolfjfepehmfgaaPx1
import Derived.Test.YtolfjfepehmfgaaPx4
import Derived.Test.YtolfjfepehmfgaaPx5
import Derived.Test.YtolfjfepehmfgaaPx7
namespace Go.Proofs.Ytolfjfepehmfgaa.P
open Go.RowKit Go.Proofs.YtolfjfepehmfgaaW.PrintWords Go.Proofs.YtolfjfepehmfgaaW.PrintLast Go.Proofs.YtolfjfepehmfgaaW.PrintMore
attribute [local go_sem] max2_int min2_int max_two min_two max_three min_three max_four min_four   -- for this text's walks alone
set_option linter.unusedVariables false
set_option linter.unusedSimpArgs false

-- making: yes
abbrev attr_MergeV.f (k : Nat) (l0 : List (S27)) : Option (Int × List Int) := attr_Merge.f k l0
theorem attr_MergeV.calls (k : Nat) (A0 : Option Addr) (c0 : Nat) (l0 : List (S27)) (r1 : Int) (r2 : List Int) (w : World) (hr0 : Kd.C k27 w A0 l0.length l0) (hc0 : l0.length ≤ c0) (h : attr_MergeV.f k l0 = some (r1, r2)) :
  Calls Try.prog 11 #[.slice A0 l0.length c0] w fun e w' => ∃ v1_ : Value, e = .returned (.agg #[.int .i64 r1, v1_]) ∧ Kd.V (Kd.int .i64) 3 w' w.heap.size (fun k_ => (w.heap.size ≤ k_)) v1_ r2 ∧ Below w.heap.size w w' := by
 refine (attr_Merge.calls k A0 c0 l0 r1 r2 w hr0 hc0 h).mono ?_
 rintro e w' ⟨v, rfl, ho, hb⟩
 exact ⟨v, rfl, Kd.R_V (Kd.R_mono (Kd.R_bound ho) (fun _ hk => hk.2.1)), hb⟩
abbrev q7_0 : Array Bool := #[false, false, false, false, false, false, false, false, false, false, false, false, false]
abbrev q7_1 : Array Bool := #[false, false, false, false, false, false, false, false, false]
abbrev q7_2 : Array Bool := #[true, false, false, false, false, false, false, false, false]
abbrev q7_3 : Array Bool := #[true, true, false, false, false, false, false, false, false]
abbrev q7_4 : Array Bool := #[true, true, true, false, false, false, false, false, false]
abbrev q7_5 : Array Bool := #[true, true, true, true, false, false, false, false, false]
abbrev q7_6 : Array Bool := #[true, true, true, true, true, false, false, false, false]
abbrev q7_7 : Array Bool := #[true, true, true, true, true, true, false, false, false]
abbrev q7_8 : Array Bool := #[true, true, true, true, true, true, true, false, false]
abbrev q7_9 : Array Bool := #[true, true, true, true, true, true, true, true, false]
abbrev q7_10 : Array Bool := #[true, true, true, true, true, true, true, true, true]
mutual
def colloquylaw06_AttrJoins.j0 : Nat → Bool → Bool → Int → List Int → Int → List Int → Int → List Int → Option (Bool)
 | 0, _, _, _, _, _, _, _, _ => none
 | k + 1, x7, x30, x236000, x236001, x237000, x237001, x238000, x238001 => if x30 = true then (some x7) else ((attr_MergeV.f k (([(⟨x236000, x236001⟩ : S27), (⟨x237000, x237001⟩ : S27)] : List (S27)))).bind fun bt245 => ((attr_MergeV.f k (([(⟨x237000, x237001⟩ : S27), (⟨x236000, x236001⟩ : S27)] : List (S27)))).bind fun bt253 => ((attr_Same.f bt245.1 bt245.2 bt253.1 bt253.2).bind fun t257 => ((attr_MergeV.f k (([(⟨x236000, x236001⟩ : S27), (⟨x237000, x237001⟩ : S27), (⟨x236000, x236001⟩ : S27), (⟨bt245.1, bt245.2⟩ : S27)] : List (S27)))).bind fun bt261 => ((attr_Same.f bt245.1 bt245.2 bt261.1 bt261.2).bind fun t265 => ((attr_MergeV.f k (([(⟨bt245.1, bt245.2⟩ : S27), (⟨x238000, x238001⟩ : S27)] : List (S27)))).bind fun bt269 => ((attr_MergeV.f k (([(⟨x237000, x237001⟩ : S27), (⟨x238000, x238001⟩ : S27)] : List (S27)))).bind fun bt276 => ((attr_MergeV.f k (([(⟨x236000, x236001⟩ : S27), (⟨bt276.1, bt276.2⟩ : S27)] : List (S27)))).bind fun bt283 => ((attr_Same.f bt269.1 bt269.2 bt283.1 bt283.2).bind fun t287 => ((attr_Within.f x236000 x236001 x238000 x238001).bind fun t288 => (if t288 = true then ((attr_Within.f x237000 x237001 x238000 x238001).bind fun t289 => (if t289 = true then ((attr_Within.f bt245.1 bt245.2 x238000 x238001).bind fun t290 => (colloquylaw06_AttrJoins.j1 k t257 t265 t287 t290 x236000 x236001 x237000 x237001 bt245.1 bt245.2)) else (colloquylaw06_AttrJoins.j1 k t257 t265 t287 true x236000 x236001 x237000 x237001 bt245.1 bt245.2))) else (colloquylaw06_AttrJoins.j1 k t257 t265 t287 true x236000 x236001 x237000 x237001 bt245.1 bt245.2))))))))))))
def colloquylaw06_AttrJoins.j1 : Nat → Bool → Bool → Bool → Bool → Int → List Int → Int → List Int → Int → List Int → Option (Bool)
 | 0, _, _, _, _, _, _, _, _, _, _ => none
 | k + 1, x9, x10, x11, x12, x236000, x236001, x237000, x237001, x250000, x250001 => if x9 = true then (if x10 = true then (if x11 = true then (if x12 = true then ((attr_Within.f x236000 x236001 x250000 x250001).bind fun t291 => (if t291 = true then ((attr_Within.f x237000 x237001 x250000 x250001).bind fun t292 => (if t292 = true then ((attr_May.f k x250000 x250001 7).bind fun t293 => (some t293)) else (some false))) else (some false))) else (some false)) else (some false)) else (some false)) else (some false)
end
def colloquylaw06_AttrJoins.f (k : Nat) (a0_0 : Int) (l0_1 : List Int) (a1_0 : Int) (l1_1 : List Int) (a2_0 : Int) (l2_1 : List Int) : Option (Bool) := (colloquylaw06_awake.f k).bind fun t238 => (if t238 = true then ((attr_May.f k a0_0 l0_1 7).bind fun t239 => (if t239 = true then ((attr_May.f k a1_0 l1_1 7).bind fun t240 => (if t240 = true then ((attr_May.f k a2_0 l2_1 7).bind fun t241 => (colloquylaw06_AttrJoins.j0 k t238 (!t241) a0_0 l0_1 a1_0 l1_1 a2_0 l2_1)) else (colloquylaw06_AttrJoins.j0 k t238 true a0_0 l0_1 a1_0 l1_1 a2_0 l2_1))) else (colloquylaw06_AttrJoins.j0 k t238 true a0_0 l0_1 a1_0 l1_1 a2_0 l2_1))) else (colloquylaw06_AttrJoins.j0 k t238 true a0_0 l0_1 a1_0 l1_1 a2_0 l2_1))
def colloquylaw06_AttrJoins.T6 : Bool × List (List Nat × List Nat) := (true, [([], []), ([], []), ([], []), ([], []), ([], []), ([1, 2, 3, 4], [1, 2, 3, 4]), ([5], [5]), ([0, 6, 6], [0, 6]), ([7, 7, 0, 1, 2, 3, 4, 5, 6, 7], [7])])
def colloquylaw06_AttrJoins.B6 : List Nat := [0, 0, 0, 0, 0, 30, 62, 127, 255]
theorem colloquylaw06_AttrJoins.tab6 : rtab .any (opsOf Try.f7 6) = colloquylaw06_AttrJoins.T6 := by kernel_rfl
theorem colloquylaw06_AttrJoins.bits6 : waitsOk colloquylaw06_AttrJoins.T6.2 colloquylaw06_AttrJoins.B6 = true := by kernel_rfl
def colloquylaw06_AttrJoins.T7 : Bool × List (List Nat × List Nat) := (true, [([], []), ([], []), ([0, 1], [0, 1]), ([2], [2]), ([], []), ([], []), ([], []), ([5, 6], [5, 6]), ([7, 3], [7]), ([4, 8], [4, 8]), ([9, 8], [9]), ([3, 10, 10], [3, 10]), ([11, 11, 0, 1, 2, 3, 4, 5, 6, 7, 8, 9, 10, 11], [11])])
def colloquylaw06_AttrJoins.B7 : List Nat := [0, 0, 3, 7, 0, 0, 0, 96, 239, 511, 1023, 2047, 4095]
theorem colloquylaw06_AttrJoins.tab7 : rtab .any (opsOf Try.f7 7) = colloquylaw06_AttrJoins.T7 := by kernel_rfl
theorem colloquylaw06_AttrJoins.bits7 : waitsOk colloquylaw06_AttrJoins.T7.2 colloquylaw06_AttrJoins.B7 = true := by kernel_rfl
set_option maxHeartbeats 8000000 in
set_option maxRecDepth 100000 in
theorem colloquylaw06_AttrJoins.calls (k : Nat) (a0_0 : Int) (P0_1_ : Nat → Prop) (A0_1 : Option Addr) (c0_1 : Nat) (l0_1 : List Int) (a1_0 : Int) (P1_1_ : Nat → Prop) (A1_1 : Option Addr) (c1_1 : Nat) (l1_1 : List Int) (a2_0 : Int) (P2_1_ : Nat → Prop) (A2_1 : Option Addr) (c2_1 : Nat) (l2_1 : List Int) (r : Bool) (w : World) (hs0_1 : Kd.V (Kd.int .i64) 3 w w.heap.size (fun k_ => P0_1_ k_) (.slice A0_1 l0_1.length c0_1) l0_1) (hs1_1 : Kd.V (Kd.int .i64) 3 w w.heap.size (fun k_ => P1_1_ k_) (.slice A1_1 l1_1.length c1_1) l1_1) (hs2_1 : Kd.V (Kd.int .i64) 3 w w.heap.size (fun k_ => P2_1_ k_) (.slice A2_1 l2_1.length c2_1) l2_1) (hrt : r = true) (h : colloquylaw06_AttrJoins.f k a0_0 l0_1 a1_0 l1_1 a2_0 l2_1 = some r) :
  Calls Try.prog 7 #[.agg #[.int .i64 a0_0, .slice A0_1 l0_1.length c0_1], .agg #[.int .i64 a1_0, .slice A1_1 l1_1.length c1_1], .agg #[.int .i64 a2_0, .slice A2_1 l2_1.length c2_1]] w fun e w' => e = .returned (.bool r) ∧ Below w.heap.size w w' := by
 have hu27 := Try.underlying27
 have HRT := Aside0.mk hrt
 clear hrt
 have HO0_1 := Aside0.mk (show Kd.V (Kd.int .i64) 3 w w.heap.size (fun k_ => ((P0_1_ k_ ∨ P1_1_ k_ ∨ P2_1_ k_) ∨ w.heap.size ≤ k_)) (.slice A0_1 l0_1.length c0_1) l0_1 from Kd.V_mono hs0_1 (fun k_ hk => .inl (.inl hk)))
 have HO1_1 := Aside0.mk (show Kd.V (Kd.int .i64) 3 w w.heap.size (fun k_ => ((P0_1_ k_ ∨ P1_1_ k_ ∨ P2_1_ k_) ∨ w.heap.size ≤ k_)) (.slice A1_1 l1_1.length c1_1) l1_1 from Kd.V_mono hs1_1 (fun k_ hk => .inl (.inr (.inl hk))))
 have HO2_1 := Aside0.mk (show Kd.V (Kd.int .i64) 3 w w.heap.size (fun k_ => ((P0_1_ k_ ∨ P1_1_ k_ ∨ P2_1_ k_) ∨ w.heap.size ≤ k_)) (.slice A2_1 l2_1.length c2_1) l2_1 from Kd.V_mono hs2_1 (fun k_ hk => .inl (.inr (.inr hk))))
 have HB := Aside0.mk (Below.refl w.heap.size w)
 have H : ((colloquylaw06_awake.f k).bind fun t238 => (if t238 = true then ((attr_May.f k a0_0 l0_1 7).bind fun t239 => (if t239 = true then ((attr_May.f k a1_0 l1_1 7).bind fun t240 => (if t240 = true then ((attr_May.f k a2_0 l2_1 7).bind fun t241 => (colloquylaw06_AttrJoins.j0 k t238 (!t241) a0_0 l0_1 a1_0 l1_1 a2_0 l2_1)) else (colloquylaw06_AttrJoins.j0 k t238 true a0_0 l0_1 a1_0 l1_1 a2_0 l2_1))) else (colloquylaw06_AttrJoins.j0 k t238 true a0_0 l0_1 a1_0 l1_1 a2_0 l2_1))) else (colloquylaw06_AttrJoins.j0 k t238 true a0_0 l0_1 a1_0 l1_1 a2_0 l2_1))) = some r := h
 clear h
 replace H := Option.bind_eq_some_iff.mp H
 obtain ⟨t238, A40, H⟩ := H
 replace H : (if t238 = true then ((attr_May.f k a0_0 l0_1 7).bind fun t239 => (if t239 = true then ((attr_May.f k a1_0 l1_1 7).bind fun t240 => (if t240 = true then ((attr_May.f k a2_0 l2_1 7).bind fun t241 => (colloquylaw06_AttrJoins.j0 k t238 (!t241) a0_0 l0_1 a1_0 l1_1 a2_0 l2_1)) else (colloquylaw06_AttrJoins.j0 k t238 true a0_0 l0_1 a1_0 l1_1 a2_0 l2_1))) else (colloquylaw06_AttrJoins.j0 k t238 true a0_0 l0_1 a1_0 l1_1 a2_0 l2_1))) else (colloquylaw06_AttrJoins.j0 k t238 true a0_0 l0_1 a1_0 l1_1 a2_0 l2_1)) = some r := H
 have A4 := Aside0.mk A40
 clear A40
 have HC5 := Aside0.mk H
 clear H
 go_enter Try.func7, Try.ntmps7
 go_upto_region 2 with (first | ((with_reducible refine gate_dst (N := 3) rfl ?_); refine box_event ?hg (N := 3) ?hd (cs := #[.int .i64 a0_0, .slice A0_1 l0_1.length c0_1]) (t := 27) ?hr ?_; (case hd => rfl); (case hg => rfl); (case hr => first | (go_simp; done) | (go_simp; rfl)); intro gb235 hg w6 hbox hb; have n0_ := Aside0.mk (Kd.V_below (Kd.V_elderB (Kd.vk HO0_1) gb235 (Nat.le_of_eq hg.symm)) hb); have n1_ := Aside0.mk (Kd.V_below (Kd.V_elderB (Kd.vk HO1_1) gb235 (Nat.le_of_eq hg.symm)) hb); have n2_ := Aside0.mk (Kd.V_below (Kd.V_elderB (Kd.vk HO2_1) gb235 (Nat.le_of_eq hg.symm)) hb); have s_ := step_size_ (gw_ HB) hb hg; have n3_ := Aside0.mk s_.1; have n4_ := Aside0.mk (hbox); have n5_ := Aside0.mk s_.2; clear s_; have n6_ := n5_; clear HO0_1; clear HO1_1; clear HO2_1; clear HB; have HO0_1 := n0_; have HO1_1 := n1_; have HO2_1 := n2_; have HB := n3_; have BK235 := n4_; have GW235 := n5_; have GE235 := n6_; clear n0_ n1_ n2_ n3_ n4_ n5_ n6_; clear hb hbox hg) | ((with_reducible refine gate_dst (N := 4) rfl ?_); refine box_event ?hg (N := 4) ?hd (cs := #[.int .i64 a1_0, .slice A1_1 l1_1.length c1_1]) (t := 27) ?hr ?_; (case hd => rfl); (case hg => rfl); (case hr => first | (go_simp; done) | (go_simp; rfl)); intro gb236 hg w7 hbox hb; have n0_ := Aside0.mk (Kd.V_below (Kd.V_elderB (Kd.vk HO0_1) gb236 (Nat.le_of_eq hg.symm)) hb); have n1_ := Aside0.mk (Kd.V_below (Kd.V_elderB (Kd.vk HO1_1) gb236 (Nat.le_of_eq hg.symm)) hb); have n2_ := Aside0.mk (Kd.V_below (Kd.V_elderB (Kd.vk HO2_1) gb236 (Nat.le_of_eq hg.symm)) hb); have n3_ := Aside0.mk (blk_below (g := gb235) (bk BK235) hb); have s_ := step_size_ (gw_ HB) hb hg; have n4_ := Aside0.mk s_.1; have n5_ := Aside0.mk (hbox); have n6_ := Aside0.mk s_.2; clear s_; have n7_ := n6_; have l_ := blk_lt_ (g := gb235) hg (bk BK235); have n8_ := Aside0.mk (Nat.ne_of_lt l_); have n9_ := Aside0.mk (Nat.ne_of_gt l_); clear l_; clear HO0_1; clear HO1_1; clear HO2_1; clear BK235; clear HB; have HO0_1 := n0_; have HO1_1 := n1_; have HO2_1 := n2_; have BK235 := n3_; have HB := n4_; have BK236 := n5_; have GW236 := n6_; have GE236 := n7_; have NB235_236 := n8_; have NB236_235 := n9_; clear n0_ n1_ n2_ n3_ n4_ n5_ n6_ n7_ n8_ n9_; clear hb hbox hg) | ((with_reducible refine gate_dst (N := 5) rfl ?_); refine box_event ?hg (N := 5) ?hd (cs := #[.int .i64 a2_0, .slice A2_1 l2_1.length c2_1]) (t := 27) ?hr ?_; (case hd => rfl); (case hg => rfl); (case hr => first | (go_simp; done) | (go_simp; rfl)); intro gb237 hg w8 hbox hb; have n0_ := Aside0.mk (Kd.V_below (Kd.V_elderB (Kd.vk HO0_1) gb237 (Nat.le_of_eq hg.symm)) hb); have n1_ := Aside0.mk (Kd.V_below (Kd.V_elderB (Kd.vk HO1_1) gb237 (Nat.le_of_eq hg.symm)) hb); have n2_ := Aside0.mk (Kd.V_below (Kd.V_elderB (Kd.vk HO2_1) gb237 (Nat.le_of_eq hg.symm)) hb); have n3_ := Aside0.mk (blk_below (g := gb235) (bk BK235) hb); have n4_ := Aside0.mk (blk_below (g := gb236) (bk BK236) hb); have s_ := step_size_ (gw_ HB) hb hg; have n5_ := Aside0.mk s_.1; have n6_ := Aside0.mk (hbox); have n7_ := Aside0.mk s_.2; clear s_; have n8_ := n7_; have l_ := blk_lt_ (g := gb235) hg (bk BK235); have n9_ := Aside0.mk (Nat.ne_of_lt l_); have n10_ := Aside0.mk (Nat.ne_of_gt l_); clear l_; have l_ := blk_lt_ (g := gb236) hg (bk BK236); have n11_ := Aside0.mk (Nat.ne_of_lt l_); have n12_ := Aside0.mk (Nat.ne_of_gt l_); clear l_; clear HO0_1; clear HO1_1; clear HO2_1; clear BK235; clear BK236; clear HB; have HO0_1 := n0_; have HO1_1 := n1_; have HO2_1 := n2_; have BK235 := n3_; have BK236 := n4_; have HB := n5_; have BK237 := n6_; have GW237 := n7_; have GE237 := n8_; have NB235_237 := n9_; have NB237_235 := n10_; have NB236_237 := n11_; have NB237_236 := n12_; clear n0_ n1_ n2_ n3_ n4_ n5_ n6_ n7_ n8_ n9_ n10_ n11_ n12_; clear hb hbox hg) | ((with_reducible refine gate_callee (f := 9) rfl ?_); refine goesL_ (some 13) rfl rfl Try.func9 (by kernel_rfl) rfl #[] rfl (by (try simp only [List.map_toArray, List.map_cons, List.map_nil]); first | done | rfl | (simp only [List.length_drop, List.length_take]; rfl)) ?_; (with_reducible refine (colloquylaw06_awake.calls k  t238 _ A4.out).mono ?_); rintro e w9 ⟨rfl, hb⟩; refine ⟨_, rfl, ?_⟩; have n0_ := Aside0.mk (Kd.V_below (Kd.vk HO0_1) hb); have n1_ := Aside0.mk (Kd.V_below (Kd.vk HO1_1) hb); have n2_ := Aside0.mk (Kd.V_below (Kd.vk HO2_1) hb); have n3_ := Aside0.mk (blk_below (g := gb235) (bk BK235) hb); have n4_ := Aside0.mk (blk_below (g := gb236) (bk BK236) hb); have n5_ := Aside0.mk (blk_below (g := gb237) (bk BK237) hb); have n6_ := Aside0.mk (below_step (gw_ HB) hb); clear HO0_1; clear HO1_1; clear HO2_1; clear BK235; clear BK236; clear BK237; clear HB; have HO0_1 := n0_; have HO1_1 := n1_; have HO2_1 := n2_; have BK235 := n3_; have BK236 := n4_; have BK237 := n5_; have HB := n6_; clear n0_ n1_ n2_ n3_ n4_ n5_ n6_; (try clear hb); (try clear hb2); (try clear hk); (try clear hi)))
 (try simp only [Act.put, List.setIfInBounds_toArray, List.set_cons_zero, List.set_cons_succ])
 go_cut [30] (fun v30 wc => ∃ (kq : Nat) (x30_4 : Bool), v30 = .bool x30_4 ∧ Aside0 (colloquylaw06_AttrJoins.j0 kq t238 x30_4 a0_0 l0_1 a1_0 l1_1 a2_0 l2_1 = some r) ∧ Aside0 (kq ≤ k) ∧ Aside0 (Kd.V (Kd.int .i64) 3 wc w.heap.size (fun k_ => ((P0_1_ k_ ∨ P1_1_ k_ ∨ P2_1_ k_) ∨ w.heap.size ≤ k_) ∧ k_ ≠ gb235 ∧ k_ ≠ gb236 ∧ k_ ≠ gb237) (.slice A0_1 l0_1.length c0_1) l0_1) ∧ Aside0 (Kd.V (Kd.int .i64) 3 wc w.heap.size (fun k_ => ((P0_1_ k_ ∨ P1_1_ k_ ∨ P2_1_ k_) ∨ w.heap.size ≤ k_) ∧ k_ ≠ gb235 ∧ k_ ≠ gb236 ∧ k_ ≠ gb237) (.slice A1_1 l1_1.length c1_1) l1_1) ∧ Aside0 (Kd.V (Kd.int .i64) 3 wc w.heap.size (fun k_ => ((P0_1_ k_ ∨ P1_1_ k_ ∨ P2_1_ k_) ∨ w.heap.size ≤ k_) ∧ k_ ≠ gb235 ∧ k_ ≠ gb236 ∧ k_ ≠ gb237) (.slice A2_1 l2_1.length c2_1) l2_1) ∧ Aside0 (wc.heap[gb235]? = some (.cells #[.int .i64 a0_0, (.slice A0_1 l0_1.length c0_1)] 27 (0, 0))) ∧ Aside0 (wc.heap[gb236]? = some (.cells #[.int .i64 a1_0, (.slice A1_1 l1_1.length c1_1)] 27 (0, 0))) ∧ Aside0 (wc.heap[gb237]? = some (.cells #[.int .i64 a2_0, (.slice A2_1 l2_1.length c2_1)] 27 (0, 0))) ∧ Aside0 (Below w.heap.size w wc))
 case first =>
  have H := HC5.out
  clear HC5
  by_cases c10 : t238 = true
  ·
   subst c10
   have H1 : ((attr_May.f k a0_0 l0_1 7).bind fun t239 => (if t239 = true then ((attr_May.f k a1_0 l1_1 7).bind fun t240 => (if t240 = true then ((attr_May.f k a2_0 l2_1 7).bind fun t241 => (colloquylaw06_AttrJoins.j0 k true (!t241) a0_0 l0_1 a1_0 l1_1 a2_0 l2_1)) else (colloquylaw06_AttrJoins.j0 k true true a0_0 l0_1 a1_0 l1_1 a2_0 l2_1))) else (colloquylaw06_AttrJoins.j0 k true true a0_0 l0_1 a1_0 l1_1 a2_0 l2_1))) = some r := by rw [if_pos rfl] at H; exact H
   clear H
   have H := H1
   clear H1
   replace H := Option.bind_eq_some_iff.mp H
   obtain ⟨t239, A110, H⟩ := H
   replace H : (if t239 = true then ((attr_May.f k a1_0 l1_1 7).bind fun t240 => (if t240 = true then ((attr_May.f k a2_0 l2_1 7).bind fun t241 => (colloquylaw06_AttrJoins.j0 k true (!t241) a0_0 l0_1 a1_0 l1_1 a2_0 l2_1)) else (colloquylaw06_AttrJoins.j0 k true true a0_0 l0_1 a1_0 l1_1 a2_0 l2_1))) else (colloquylaw06_AttrJoins.j0 k true true a0_0 l0_1 a1_0 l1_1 a2_0 l2_1)) = some r := H
   have A11 := Aside0.mk A110
   clear A110
   by_cases c12 : t239 = true
   ·
    subst c12
    have H1 : ((attr_May.f k a1_0 l1_1 7).bind fun t240 => (if t240 = true then ((attr_May.f k a2_0 l2_1 7).bind fun t241 => (colloquylaw06_AttrJoins.j0 k true (!t241) a0_0 l0_1 a1_0 l1_1 a2_0 l2_1)) else (colloquylaw06_AttrJoins.j0 k true true a0_0 l0_1 a1_0 l1_1 a2_0 l2_1))) = some r := by rw [if_pos rfl] at H; exact H
    clear H
    have H := H1
    clear H1
    replace H := Option.bind_eq_some_iff.mp H
    obtain ⟨t240, A130, H⟩ := H
    replace H : (if t240 = true then ((attr_May.f k a2_0 l2_1 7).bind fun t241 => (colloquylaw06_AttrJoins.j0 k true (!t241) a0_0 l0_1 a1_0 l1_1 a2_0 l2_1)) else (colloquylaw06_AttrJoins.j0 k true true a0_0 l0_1 a1_0 l1_1 a2_0 l2_1)) = some r := H
    have A13 := Aside0.mk A130
    clear A130
    by_cases c14 : t240 = true
    ·
     subst c14
     have H1 : ((attr_May.f k a2_0 l2_1 7).bind fun t241 => (colloquylaw06_AttrJoins.j0 k true (!t241) a0_0 l0_1 a1_0 l1_1 a2_0 l2_1)) = some r := by rw [if_pos rfl] at H; exact H
     clear H
     have H := H1
     clear H1
     replace H := Option.bind_eq_some_iff.mp H
     obtain ⟨t241, A150, H⟩ := H
     replace H : (colloquylaw06_AttrJoins.j0 k true (!t241) a0_0 l0_1 a1_0 l1_1 a2_0 l2_1) = some r := H
     have A15 := Aside0.mk A150
     clear A150
     have H' := Aside0.mk H
     clear H
     have hnb16 := NB235_236.out
     have hnc16 := NB236_235.out
     have hnb17 := NB235_237.out
     have hnc17 := NB237_235.out
     obtain ⟨hcz18_0, hcz18_1⟩ := blk_cells2 BK235.out
     obtain ⟨hfz18_0, hfz18_1⟩ := blk_frozens2 BK235.out
     go_wp2_with (first | (go_at_call 17; (with_reducible refine (attr_May.calls k a0_0 _ _ l0_1 7 true _ ?side1 ?side2 A11.out).mono ?_); (case side1 => repeat (first | exact (Kd.V_reads' HO0_1.out).2.2 | (with_reducible refine Kd.C_alloc ?_ _) | (with_reducible refine Kd.C_drewN ?_ _) | (with_reducible refine Kd.C_drew ?_))); (case side2 => exact (Kd.V_reads' HO0_1.out).2.1); rintro e w19 ⟨rfl, hb⟩; have n0_ := Aside0.mk (Kd.V_below (Kd.vk HO0_1) hb); have n1_ := Aside0.mk (Kd.V_below (Kd.vk HO1_1) hb); have n2_ := Aside0.mk (Kd.V_below (Kd.vk HO2_1) hb); have n3_ := Aside0.mk (blk_below (g := gb235) (bk BK235) hb); have n4_ := Aside0.mk (blk_below (g := gb236) (bk BK236) hb); have n5_ := Aside0.mk (blk_below (g := gb237) (bk BK237) hb); have n6_ := Aside0.mk (below_step (gw_ HB) hb); clear HO0_1; clear HO1_1; clear HO2_1; clear BK235; clear BK236; clear BK237; clear HB; have HO0_1 := n0_; have HO1_1 := n1_; have HO2_1 := n2_; have BK235 := n3_; have BK236 := n4_; have BK237 := n5_; have HB := n6_; clear n0_ n1_ n2_ n3_ n4_ n5_ n6_; (try clear hb); (try clear hb2); (try clear hk); (try clear hi); have hnb20 := NB236_237.out; have hnc20 := NB237_236.out; obtain ⟨hcz21_0, hcz21_1⟩ := blk_cells2 BK236.out; obtain ⟨hfz21_0, hfz21_1⟩ := blk_frozens2 BK236.out) | (go_at_call 17; (with_reducible refine (attr_May.calls k a1_0 _ _ l1_1 7 true _ ?side1 ?side2 A13.out).mono ?_); (case side1 => repeat (first | exact (Kd.V_reads' HO1_1.out).2.2 | (with_reducible refine Kd.C_alloc ?_ _) | (with_reducible refine Kd.C_drewN ?_ _) | (with_reducible refine Kd.C_drew ?_))); (case side2 => exact (Kd.V_reads' HO1_1.out).2.1); rintro e w22 ⟨rfl, hb⟩; have n0_ := Aside0.mk (Kd.V_below (Kd.vk HO0_1) hb); have n1_ := Aside0.mk (Kd.V_below (Kd.vk HO1_1) hb); have n2_ := Aside0.mk (Kd.V_below (Kd.vk HO2_1) hb); have n3_ := Aside0.mk (blk_below (g := gb235) (bk BK235) hb); have n4_ := Aside0.mk (blk_below (g := gb236) (bk BK236) hb); have n5_ := Aside0.mk (blk_below (g := gb237) (bk BK237) hb); have n6_ := Aside0.mk (below_step (gw_ HB) hb); clear HO0_1; clear HO1_1; clear HO2_1; clear BK235; clear BK236; clear BK237; clear HB; have HO0_1 := n0_; have HO1_1 := n1_; have HO2_1 := n2_; have BK235 := n3_; have BK236 := n4_; have BK237 := n5_; have HB := n6_; clear n0_ n1_ n2_ n3_ n4_ n5_ n6_; (try clear hb); (try clear hb2); (try clear hk); (try clear hi); obtain ⟨hcz23_0, hcz23_1⟩ := blk_cells2 BK237.out; obtain ⟨hfz23_0, hfz23_1⟩ := blk_frozens2 BK237.out) | (go_at_call 17; (with_reducible refine (attr_May.calls k a2_0 _ _ l2_1 7 t241 _ ?side1 ?side2 A15.out).mono ?_); (case side1 => repeat (first | exact (Kd.V_reads' HO2_1.out).2.2 | (with_reducible refine Kd.C_alloc ?_ _) | (with_reducible refine Kd.C_drewN ?_ _) | (with_reducible refine Kd.C_drew ?_))); (case side2 => exact (Kd.V_reads' HO2_1.out).2.1); rintro e w24 ⟨rfl, hb⟩; have n0_ := Aside0.mk (Kd.V_below (Kd.vk HO0_1) hb); have n1_ := Aside0.mk (Kd.V_below (Kd.vk HO1_1) hb); have n2_ := Aside0.mk (Kd.V_below (Kd.vk HO2_1) hb); have n3_ := Aside0.mk (blk_below (g := gb235) (bk BK235) hb); have n4_ := Aside0.mk (blk_below (g := gb236) (bk BK236) hb); have n5_ := Aside0.mk (blk_below (g := gb237) (bk BK237) hb); have n6_ := Aside0.mk (below_step (gw_ HB) hb); clear HO0_1; clear HO1_1; clear HO2_1; clear BK235; clear BK236; clear BK237; clear HB; have HO0_1 := n0_; have HO1_1 := n1_; have HO2_1 := n2_; have BK235 := n3_; have BK236 := n4_; have BK237 := n5_; have HB := n6_; clear n0_ n1_ n2_ n3_ n4_ n5_ n6_; (try clear hb); (try clear hb2); (try clear hk); (try clear hi)))
     go_meet
     case rel => exact ⟨_, (!t241), (by first | rfl | (simp; done) | (simp [*]; done)), H', ⟨by first | omega | exact Nat.le_refl _⟩, ⟨by (with_reducible repeat (first | apply Kd.V_alloc | apply Kd.V_drewN | apply Kd.V_drew)); exact Kd.V_mono HO0_1.out (fun _ hk => (by first | exact ⟨hk.1.1.1, ⟨hk.1.1.2, ⟨hk.1.2, hk.2⟩⟩⟩ | simp [hk]))⟩, ⟨by (with_reducible repeat (first | apply Kd.V_alloc | apply Kd.V_drewN | apply Kd.V_drew)); exact Kd.V_mono HO1_1.out (fun _ hk => (by first | exact ⟨hk.1.1.1, ⟨hk.1.1.2, ⟨hk.1.2, hk.2⟩⟩⟩ | simp [hk]))⟩, ⟨by (with_reducible repeat (first | apply Kd.V_alloc | apply Kd.V_drewN | apply Kd.V_drew)); exact Kd.V_mono HO2_1.out (fun _ hk => (by first | exact ⟨hk.1.1.1, ⟨hk.1.1.2, ⟨hk.1.2, hk.2⟩⟩⟩ | simp [hk]))⟩, ⟨by (with_reducible repeat (first | refine blk_drewN ?_ _ | refine blk_drew ?_ | refine blk_alloc ?_ _)); exact BK235.out⟩, ⟨by (with_reducible repeat (first | refine blk_drewN ?_ _ | refine blk_drew ?_ | refine blk_alloc ?_ _)); exact BK236.out⟩, ⟨by (with_reducible repeat (first | refine blk_drewN ?_ _ | refine blk_drew ?_ | refine blk_alloc ?_ _)); exact BK237.out⟩, ⟨gw_ HB⟩⟩
    ·
     replace c14 := Bool.eq_false_iff.mpr c14
     subst c14
     have H1 : (colloquylaw06_AttrJoins.j0 k true true a0_0 l0_1 a1_0 l1_1 a2_0 l2_1) = some r := by rw [if_neg (show ¬ (false = true) by decide)] at H; exact H
     clear H
     have H := H1
     clear H1
     have H' := Aside0.mk H
     clear H
     have hnb25 := NB235_236.out
     have hnc25 := NB236_235.out
     have hnb26 := NB235_237.out
     have hnc26 := NB237_235.out
     obtain ⟨hcz27_0, hcz27_1⟩ := blk_cells2 BK235.out
     obtain ⟨hfz27_0, hfz27_1⟩ := blk_frozens2 BK235.out
     go_wp2_with (first | (go_at_call 17; (with_reducible refine (attr_May.calls k a0_0 _ _ l0_1 7 true _ ?side1 ?side2 A11.out).mono ?_); (case side1 => repeat (first | exact (Kd.V_reads' HO0_1.out).2.2 | (with_reducible refine Kd.C_alloc ?_ _) | (with_reducible refine Kd.C_drewN ?_ _) | (with_reducible refine Kd.C_drew ?_))); (case side2 => exact (Kd.V_reads' HO0_1.out).2.1); rintro e w28 ⟨rfl, hb⟩; have n0_ := Aside0.mk (Kd.V_below (Kd.vk HO0_1) hb); have n1_ := Aside0.mk (Kd.V_below (Kd.vk HO1_1) hb); have n2_ := Aside0.mk (Kd.V_below (Kd.vk HO2_1) hb); have n3_ := Aside0.mk (blk_below (g := gb235) (bk BK235) hb); have n4_ := Aside0.mk (blk_below (g := gb236) (bk BK236) hb); have n5_ := Aside0.mk (blk_below (g := gb237) (bk BK237) hb); have n6_ := Aside0.mk (below_step (gw_ HB) hb); clear HO0_1; clear HO1_1; clear HO2_1; clear BK235; clear BK236; clear BK237; clear HB; have HO0_1 := n0_; have HO1_1 := n1_; have HO2_1 := n2_; have BK235 := n3_; have BK236 := n4_; have BK237 := n5_; have HB := n6_; clear n0_ n1_ n2_ n3_ n4_ n5_ n6_; (try clear hb); (try clear hb2); (try clear hk); (try clear hi); have hnb29 := NB236_237.out; have hnc29 := NB237_236.out; obtain ⟨hcz30_0, hcz30_1⟩ := blk_cells2 BK236.out; obtain ⟨hfz30_0, hfz30_1⟩ := blk_frozens2 BK236.out) | (go_at_call 17; (with_reducible refine (attr_May.calls k a1_0 _ _ l1_1 7 false _ ?side1 ?side2 A13.out).mono ?_); (case side1 => repeat (first | exact (Kd.V_reads' HO1_1.out).2.2 | (with_reducible refine Kd.C_alloc ?_ _) | (with_reducible refine Kd.C_drewN ?_ _) | (with_reducible refine Kd.C_drew ?_))); (case side2 => exact (Kd.V_reads' HO1_1.out).2.1); rintro e w31 ⟨rfl, hb⟩; have n0_ := Aside0.mk (Kd.V_below (Kd.vk HO0_1) hb); have n1_ := Aside0.mk (Kd.V_below (Kd.vk HO1_1) hb); have n2_ := Aside0.mk (Kd.V_below (Kd.vk HO2_1) hb); have n3_ := Aside0.mk (blk_below (g := gb235) (bk BK235) hb); have n4_ := Aside0.mk (blk_below (g := gb236) (bk BK236) hb); have n5_ := Aside0.mk (blk_below (g := gb237) (bk BK237) hb); have n6_ := Aside0.mk (below_step (gw_ HB) hb); clear HO0_1; clear HO1_1; clear HO2_1; clear BK235; clear BK236; clear BK237; clear HB; have HO0_1 := n0_; have HO1_1 := n1_; have HO2_1 := n2_; have BK235 := n3_; have BK236 := n4_; have BK237 := n5_; have HB := n6_; clear n0_ n1_ n2_ n3_ n4_ n5_ n6_; (try clear hb); (try clear hb2); (try clear hk); (try clear hi)))
     go_meet
     case rel => exact ⟨_, (true), (by first | rfl | (simp; done) | (simp [*]; done)), H', ⟨by first | omega | exact Nat.le_refl _⟩, ⟨by (with_reducible repeat (first | apply Kd.V_alloc | apply Kd.V_drewN | apply Kd.V_drew)); exact Kd.V_mono HO0_1.out (fun _ hk => (by first | exact ⟨hk.1.1.1, ⟨hk.1.1.2, ⟨hk.1.2, hk.2⟩⟩⟩ | simp [hk]))⟩, ⟨by (with_reducible repeat (first | apply Kd.V_alloc | apply Kd.V_drewN | apply Kd.V_drew)); exact Kd.V_mono HO1_1.out (fun _ hk => (by first | exact ⟨hk.1.1.1, ⟨hk.1.1.2, ⟨hk.1.2, hk.2⟩⟩⟩ | simp [hk]))⟩, ⟨by (with_reducible repeat (first | apply Kd.V_alloc | apply Kd.V_drewN | apply Kd.V_drew)); exact Kd.V_mono HO2_1.out (fun _ hk => (by first | exact ⟨hk.1.1.1, ⟨hk.1.1.2, ⟨hk.1.2, hk.2⟩⟩⟩ | simp [hk]))⟩, ⟨by (with_reducible repeat (first | refine blk_drewN ?_ _ | refine blk_drew ?_ | refine blk_alloc ?_ _)); exact BK235.out⟩, ⟨by (with_reducible repeat (first | refine blk_drewN ?_ _ | refine blk_drew ?_ | refine blk_alloc ?_ _)); exact BK236.out⟩, ⟨by (with_reducible repeat (first | refine blk_drewN ?_ _ | refine blk_drew ?_ | refine blk_alloc ?_ _)); exact BK237.out⟩, ⟨gw_ HB⟩⟩
   ·
    replace c12 := Bool.eq_false_iff.mpr c12
    subst c12
    have H1 : (colloquylaw06_AttrJoins.j0 k true true a0_0 l0_1 a1_0 l1_1 a2_0 l2_1) = some r := by rw [if_neg (show ¬ (false = true) by decide)] at H; exact H
    clear H
    have H := H1
    clear H1
    have H' := Aside0.mk H
    clear H
    have hnb32 := NB235_236.out
    have hnc32 := NB236_235.out
    have hnb33 := NB235_237.out
    have hnc33 := NB237_235.out
    obtain ⟨hcz34_0, hcz34_1⟩ := blk_cells2 BK235.out
    obtain ⟨hfz34_0, hfz34_1⟩ := blk_frozens2 BK235.out
    go_wp2_with (first | (go_at_call 17; (with_reducible refine (attr_May.calls k a0_0 _ _ l0_1 7 false _ ?side1 ?side2 A11.out).mono ?_); (case side1 => repeat (first | exact (Kd.V_reads' HO0_1.out).2.2 | (with_reducible refine Kd.C_alloc ?_ _) | (with_reducible refine Kd.C_drewN ?_ _) | (with_reducible refine Kd.C_drew ?_))); (case side2 => exact (Kd.V_reads' HO0_1.out).2.1); rintro e w35 ⟨rfl, hb⟩; have n0_ := Aside0.mk (Kd.V_below (Kd.vk HO0_1) hb); have n1_ := Aside0.mk (Kd.V_below (Kd.vk HO1_1) hb); have n2_ := Aside0.mk (Kd.V_below (Kd.vk HO2_1) hb); have n3_ := Aside0.mk (blk_below (g := gb235) (bk BK235) hb); have n4_ := Aside0.mk (blk_below (g := gb236) (bk BK236) hb); have n5_ := Aside0.mk (blk_below (g := gb237) (bk BK237) hb); have n6_ := Aside0.mk (below_step (gw_ HB) hb); clear HO0_1; clear HO1_1; clear HO2_1; clear BK235; clear BK236; clear BK237; clear HB; have HO0_1 := n0_; have HO1_1 := n1_; have HO2_1 := n2_; have BK235 := n3_; have BK236 := n4_; have BK237 := n5_; have HB := n6_; clear n0_ n1_ n2_ n3_ n4_ n5_ n6_; (try clear hb); (try clear hb2); (try clear hk); (try clear hi)))
    go_meet
    case rel => exact ⟨_, (true), (by first | rfl | (simp; done) | (simp [*]; done)), H', ⟨by first | omega | exact Nat.le_refl _⟩, ⟨by (with_reducible repeat (first | apply Kd.V_alloc | apply Kd.V_drewN | apply Kd.V_drew)); exact Kd.V_mono HO0_1.out (fun _ hk => (by first | exact ⟨hk.1.1.1, ⟨hk.1.1.2, ⟨hk.1.2, hk.2⟩⟩⟩ | simp [hk]))⟩, ⟨by (with_reducible repeat (first | apply Kd.V_alloc | apply Kd.V_drewN | apply Kd.V_drew)); exact Kd.V_mono HO1_1.out (fun _ hk => (by first | exact ⟨hk.1.1.1, ⟨hk.1.1.2, ⟨hk.1.2, hk.2⟩⟩⟩ | simp [hk]))⟩, ⟨by (with_reducible repeat (first | apply Kd.V_alloc | apply Kd.V_drewN | apply Kd.V_drew)); exact Kd.V_mono HO2_1.out (fun _ hk => (by first | exact ⟨hk.1.1.1, ⟨hk.1.1.2, ⟨hk.1.2, hk.2⟩⟩⟩ | simp [hk]))⟩, ⟨by (with_reducible repeat (first | refine blk_drewN ?_ _ | refine blk_drew ?_ | refine blk_alloc ?_ _)); exact BK235.out⟩, ⟨by (with_reducible repeat (first | refine blk_drewN ?_ _ | refine blk_drew ?_ | refine blk_alloc ?_ _)); exact BK236.out⟩, ⟨by (with_reducible repeat (first | refine blk_drewN ?_ _ | refine blk_drew ?_ | refine blk_alloc ?_ _)); exact BK237.out⟩, ⟨gw_ HB⟩⟩
  ·
   replace c10 := Bool.eq_false_iff.mpr c10
   subst c10
   have H1 : (colloquylaw06_AttrJoins.j0 k false true a0_0 l0_1 a1_0 l1_1 a2_0 l2_1) = some r := by rw [if_neg (show ¬ (false = true) by decide)] at H; exact H
   clear H
   have H := H1
   clear H1
   have H' := Aside0.mk H
   clear H
   go_wp2
   go_meet
   case rel => exact ⟨_, (true), (by first | rfl | (simp; done) | (simp [*]; done)), H', ⟨by first | omega | exact Nat.le_refl _⟩, ⟨by (with_reducible repeat (first | apply Kd.V_alloc | apply Kd.V_drewN | apply Kd.V_drew)); exact Kd.V_mono HO0_1.out (fun _ hk => (by first | exact ⟨hk.1.1.1, ⟨hk.1.1.2, ⟨hk.1.2, hk.2⟩⟩⟩ | simp [hk]))⟩, ⟨by (with_reducible repeat (first | apply Kd.V_alloc | apply Kd.V_drewN | apply Kd.V_drew)); exact Kd.V_mono HO1_1.out (fun _ hk => (by first | exact ⟨hk.1.1.1, ⟨hk.1.1.2, ⟨hk.1.2, hk.2⟩⟩⟩ | simp [hk]))⟩, ⟨by (with_reducible repeat (first | apply Kd.V_alloc | apply Kd.V_drewN | apply Kd.V_drew)); exact Kd.V_mono HO2_1.out (fun _ hk => (by first | exact ⟨hk.1.1.1, ⟨hk.1.1.2, ⟨hk.1.2, hk.2⟩⟩⟩ | simp [hk]))⟩, ⟨by (with_reducible repeat (first | refine blk_drewN ?_ _ | refine blk_drew ?_ | refine blk_alloc ?_ _)); exact BK235.out⟩, ⟨by (with_reducible repeat (first | refine blk_drewN ?_ _ | refine blk_drew ?_ | refine blk_alloc ?_ _)); exact BK236.out⟩, ⟨by (with_reducible repeat (first | refine blk_drewN ?_ _ | refine blk_drew ?_ | refine blk_alloc ?_ _)); exact BK237.out⟩, ⟨gw_ HB⟩⟩
 case rest =>
  clear HC5
  try clear c1
  try clear c2
  try clear p2
  try clear c3
  try clear c7
  try clear c9
  try clear c10
  try clear c12
  try clear c14
  try clear c16
  try clear c17
  try clear c20
  try clear c25
  try clear c26
  try clear c29
  try clear c32
  try clear c33
  try clear hcz18_0
  try clear hcz18_1
  try clear hcz21_0
  try clear hcz21_1
  try clear hcz23_0
  try clear hcz23_1
  try clear hcz27_0
  try clear hcz27_1
  try clear hcz30_0
  try clear hcz30_1
  try clear hcz34_0
  try clear hcz34_1
  try clear hfz18_0
  try clear hfz18_1
  try clear hfz21_0
  try clear hfz21_1
  try clear hfz23_0
  try clear hfz23_1
  try clear hfz27_0
  try clear hfz27_1
  try clear hfz30_0
  try clear hfz30_1
  try clear hfz34_0
  try clear hfz34_1
  obtain ⟨kq, x30_4, rfl, HA, HJ4, HO_236001, HO_237001, HO_238001, BK235, BK236, BK237, HB⟩ := hcut
  cases kq with
  | zero => exact absurd HA.out (by simp [colloquylaw06_AttrJoins.j0])
  | succ kj4 =>
   have H := HA.out
   clear HA
   simp only [colloquylaw06_AttrJoins.j0] at H
   by_cases c36 : x30_4 = true
   ·
    subst c36
    have H1 : (some t238) = some r := by rw [if_pos rfl] at H; exact H
    clear H
    have H := H1
    clear H1
    obtain rfl := Option.some.inj H
    go_wp2
    go_ret
    exact ⟨by first | rfl | (simp [errW_none, errW_some] <;> rfl) | (simp [*, errW_none, errW_some] <;> rfl), gw_ HB⟩
   ·
    replace c36 := Bool.eq_false_iff.mpr c36
    subst c36
    have H1 : ((attr_MergeV.f kj4 (([(⟨a0_0, l0_1⟩ : S27), (⟨a1_0, l1_1⟩ : S27)] : List (S27)))).bind fun bt245 => ((attr_MergeV.f kj4 (([(⟨a1_0, l1_1⟩ : S27), (⟨a0_0, l0_1⟩ : S27)] : List (S27)))).bind fun bt253 => ((attr_Same.f bt245.1 bt245.2 bt253.1 bt253.2).bind fun t257 => ((attr_MergeV.f kj4 (([(⟨a0_0, l0_1⟩ : S27), (⟨a1_0, l1_1⟩ : S27), (⟨a0_0, l0_1⟩ : S27), (⟨bt245.1, bt245.2⟩ : S27)] : List (S27)))).bind fun bt261 => ((attr_Same.f bt245.1 bt245.2 bt261.1 bt261.2).bind fun t265 => ((attr_MergeV.f kj4 (([(⟨bt245.1, bt245.2⟩ : S27), (⟨a2_0, l2_1⟩ : S27)] : List (S27)))).bind fun bt269 => ((attr_MergeV.f kj4 (([(⟨a1_0, l1_1⟩ : S27), (⟨a2_0, l2_1⟩ : S27)] : List (S27)))).bind fun bt276 => ((attr_MergeV.f kj4 (([(⟨a0_0, l0_1⟩ : S27), (⟨bt276.1, bt276.2⟩ : S27)] : List (S27)))).bind fun bt283 => ((attr_Same.f bt269.1 bt269.2 bt283.1 bt283.2).bind fun t287 => ((attr_Within.f a0_0 l0_1 a2_0 l2_1).bind fun t288 => (if t288 = true then ((attr_Within.f a1_0 l1_1 a2_0 l2_1).bind fun t289 => (if t289 = true then ((attr_Within.f bt245.1 bt245.2 a2_0 l2_1).bind fun t290 => (colloquylaw06_AttrJoins.j1 kj4 t257 t265 t287 t290 a0_0 l0_1 a1_0 l1_1 bt245.1 bt245.2)) else (colloquylaw06_AttrJoins.j1 kj4 t257 t265 t287 true a0_0 l0_1 a1_0 l1_1 bt245.1 bt245.2))) else (colloquylaw06_AttrJoins.j1 kj4 t257 t265 t287 true a0_0 l0_1 a1_0 l1_1 bt245.1 bt245.2)))))))))))) = some r := by rw [if_neg (show ¬ (false = true) by decide)] at H; exact H
    clear H
    have H := H1
    clear H1
    obtain ⟨y242, hy242⟩ : ∃ y_ : List (S27), y_ = (([(⟨a0_0, l0_1⟩ : S27), (⟨a1_0, l1_1⟩ : S27)] : List (S27))) := ⟨_, rfl⟩
    replace H : ((attr_MergeV.f kj4 y242).bind fun bt245 => ((attr_MergeV.f kj4 (([(⟨a1_0, l1_1⟩ : S27), (⟨a0_0, l0_1⟩ : S27)] : List (S27)))).bind fun bt253 => ((attr_Same.f bt245.1 bt245.2 bt253.1 bt253.2).bind fun t257 => ((attr_MergeV.f kj4 (([(⟨a0_0, l0_1⟩ : S27), (⟨a1_0, l1_1⟩ : S27), (⟨a0_0, l0_1⟩ : S27), (⟨bt245.1, bt245.2⟩ : S27)] : List (S27)))).bind fun bt261 => ((attr_Same.f bt245.1 bt245.2 bt261.1 bt261.2).bind fun t265 => ((attr_MergeV.f kj4 (([(⟨bt245.1, bt245.2⟩ : S27), (⟨a2_0, l2_1⟩ : S27)] : List (S27)))).bind fun bt269 => ((attr_MergeV.f kj4 (([(⟨a1_0, l1_1⟩ : S27), (⟨a2_0, l2_1⟩ : S27)] : List (S27)))).bind fun bt276 => ((attr_MergeV.f kj4 (([(⟨a0_0, l0_1⟩ : S27), (⟨bt276.1, bt276.2⟩ : S27)] : List (S27)))).bind fun bt283 => ((attr_Same.f bt269.1 bt269.2 bt283.1 bt283.2).bind fun t287 => ((attr_Within.f a0_0 l0_1 a2_0 l2_1).bind fun t288 => (if t288 = true then ((attr_Within.f a1_0 l1_1 a2_0 l2_1).bind fun t289 => (if t289 = true then ((attr_Within.f bt245.1 bt245.2 a2_0 l2_1).bind fun t290 => (colloquylaw06_AttrJoins.j1 kj4 t257 t265 t287 t290 a0_0 l0_1 a1_0 l1_1 bt245.1 bt245.2)) else (colloquylaw06_AttrJoins.j1 kj4 t257 t265 t287 true a0_0 l0_1 a1_0 l1_1 bt245.1 bt245.2))) else (colloquylaw06_AttrJoins.j1 kj4 t257 t265 t287 true a0_0 l0_1 a1_0 l1_1 bt245.1 bt245.2)))))))))))) = some r := by first | (rw [hy242]; with_reducible exact H) | (have H2_ := (Option.bind_some _ _).symm.trans H; rw [hy242]; with_reducible exact H2_) | (have H2_ := (Option.bind_some _ _).symm.trans H; with_reducible exact H2_) | with_reducible exact H | (rw [hy242]; exact H) | exact H
    have Ny242 := Aside0.mk hy242
    clear hy242
    replace H := Option.bind_eq_some_iff.mp H
    obtain ⟨⟨t245, t246⟩, A370, H⟩ := H
    replace H : ((attr_MergeV.f kj4 (([(⟨a1_0, l1_1⟩ : S27), (⟨a0_0, l0_1⟩ : S27)] : List (S27)))).bind fun bt253 => ((attr_Same.f t245 t246 bt253.1 bt253.2).bind fun t257 => ((attr_MergeV.f kj4 (([(⟨a0_0, l0_1⟩ : S27), (⟨a1_0, l1_1⟩ : S27), (⟨a0_0, l0_1⟩ : S27), (⟨t245, t246⟩ : S27)] : List (S27)))).bind fun bt261 => ((attr_Same.f t245 t246 bt261.1 bt261.2).bind fun t265 => ((attr_MergeV.f kj4 (([(⟨t245, t246⟩ : S27), (⟨a2_0, l2_1⟩ : S27)] : List (S27)))).bind fun bt269 => ((attr_MergeV.f kj4 (([(⟨a1_0, l1_1⟩ : S27), (⟨a2_0, l2_1⟩ : S27)] : List (S27)))).bind fun bt276 => ((attr_MergeV.f kj4 (([(⟨a0_0, l0_1⟩ : S27), (⟨bt276.1, bt276.2⟩ : S27)] : List (S27)))).bind fun bt283 => ((attr_Same.f bt269.1 bt269.2 bt283.1 bt283.2).bind fun t287 => ((attr_Within.f a0_0 l0_1 a2_0 l2_1).bind fun t288 => (if t288 = true then ((attr_Within.f a1_0 l1_1 a2_0 l2_1).bind fun t289 => (if t289 = true then ((attr_Within.f t245 t246 a2_0 l2_1).bind fun t290 => (colloquylaw06_AttrJoins.j1 kj4 t257 t265 t287 t290 a0_0 l0_1 a1_0 l1_1 t245 t246)) else (colloquylaw06_AttrJoins.j1 kj4 t257 t265 t287 true a0_0 l0_1 a1_0 l1_1 t245 t246))) else (colloquylaw06_AttrJoins.j1 kj4 t257 t265 t287 true a0_0 l0_1 a1_0 l1_1 t245 t246))))))))))) = some r := H
    have A37 := Aside0.mk A370
    clear A370
    obtain ⟨y250, hy250⟩ : ∃ y_ : List (S27), y_ = (([(⟨a1_0, l1_1⟩ : S27), (⟨a0_0, l0_1⟩ : S27)] : List (S27))) := ⟨_, rfl⟩
    replace H : ((attr_MergeV.f kj4 y250).bind fun bt253 => ((attr_Same.f t245 t246 bt253.1 bt253.2).bind fun t257 => ((attr_MergeV.f kj4 (([(⟨a0_0, l0_1⟩ : S27), (⟨a1_0, l1_1⟩ : S27), (⟨a0_0, l0_1⟩ : S27), (⟨t245, t246⟩ : S27)] : List (S27)))).bind fun bt261 => ((attr_Same.f t245 t246 bt261.1 bt261.2).bind fun t265 => ((attr_MergeV.f kj4 (([(⟨t245, t246⟩ : S27), (⟨a2_0, l2_1⟩ : S27)] : List (S27)))).bind fun bt269 => ((attr_MergeV.f kj4 (([(⟨a1_0, l1_1⟩ : S27), (⟨a2_0, l2_1⟩ : S27)] : List (S27)))).bind fun bt276 => ((attr_MergeV.f kj4 (([(⟨a0_0, l0_1⟩ : S27), (⟨bt276.1, bt276.2⟩ : S27)] : List (S27)))).bind fun bt283 => ((attr_Same.f bt269.1 bt269.2 bt283.1 bt283.2).bind fun t287 => ((attr_Within.f a0_0 l0_1 a2_0 l2_1).bind fun t288 => (if t288 = true then ((attr_Within.f a1_0 l1_1 a2_0 l2_1).bind fun t289 => (if t289 = true then ((attr_Within.f t245 t246 a2_0 l2_1).bind fun t290 => (colloquylaw06_AttrJoins.j1 kj4 t257 t265 t287 t290 a0_0 l0_1 a1_0 l1_1 t245 t246)) else (colloquylaw06_AttrJoins.j1 kj4 t257 t265 t287 true a0_0 l0_1 a1_0 l1_1 t245 t246))) else (colloquylaw06_AttrJoins.j1 kj4 t257 t265 t287 true a0_0 l0_1 a1_0 l1_1 t245 t246))))))))))) = some r := by first | (rw [hy250]; with_reducible exact H) | (have H2_ := (Option.bind_some _ _).symm.trans H; rw [hy250]; with_reducible exact H2_) | (have H2_ := (Option.bind_some _ _).symm.trans H; with_reducible exact H2_) | with_reducible exact H | (rw [hy250]; exact H) | exact H
    have Ny250 := Aside0.mk hy250
    clear hy250
    replace H := Option.bind_eq_some_iff.mp H
    obtain ⟨⟨t253, t254⟩, A380, H⟩ := H
    replace H : ((attr_Same.f t245 t246 t253 t254).bind fun t257 => ((attr_MergeV.f kj4 (([(⟨a0_0, l0_1⟩ : S27), (⟨a1_0, l1_1⟩ : S27), (⟨a0_0, l0_1⟩ : S27), (⟨t245, t246⟩ : S27)] : List (S27)))).bind fun bt261 => ((attr_Same.f t245 t246 bt261.1 bt261.2).bind fun t265 => ((attr_MergeV.f kj4 (([(⟨t245, t246⟩ : S27), (⟨a2_0, l2_1⟩ : S27)] : List (S27)))).bind fun bt269 => ((attr_MergeV.f kj4 (([(⟨a1_0, l1_1⟩ : S27), (⟨a2_0, l2_1⟩ : S27)] : List (S27)))).bind fun bt276 => ((attr_MergeV.f kj4 (([(⟨a0_0, l0_1⟩ : S27), (⟨bt276.1, bt276.2⟩ : S27)] : List (S27)))).bind fun bt283 => ((attr_Same.f bt269.1 bt269.2 bt283.1 bt283.2).bind fun t287 => ((attr_Within.f a0_0 l0_1 a2_0 l2_1).bind fun t288 => (if t288 = true then ((attr_Within.f a1_0 l1_1 a2_0 l2_1).bind fun t289 => (if t289 = true then ((attr_Within.f t245 t246 a2_0 l2_1).bind fun t290 => (colloquylaw06_AttrJoins.j1 kj4 t257 t265 t287 t290 a0_0 l0_1 a1_0 l1_1 t245 t246)) else (colloquylaw06_AttrJoins.j1 kj4 t257 t265 t287 true a0_0 l0_1 a1_0 l1_1 t245 t246))) else (colloquylaw06_AttrJoins.j1 kj4 t257 t265 t287 true a0_0 l0_1 a1_0 l1_1 t245 t246)))))))))) = some r := H
    have A38 := Aside0.mk A380
    clear A380
    replace H := Option.bind_eq_some_iff.mp H
    obtain ⟨t257, A390, H⟩ := H
    replace H : ((attr_MergeV.f kj4 (([(⟨a0_0, l0_1⟩ : S27), (⟨a1_0, l1_1⟩ : S27), (⟨a0_0, l0_1⟩ : S27), (⟨t245, t246⟩ : S27)] : List (S27)))).bind fun bt261 => ((attr_Same.f t245 t246 bt261.1 bt261.2).bind fun t265 => ((attr_MergeV.f kj4 (([(⟨t245, t246⟩ : S27), (⟨a2_0, l2_1⟩ : S27)] : List (S27)))).bind fun bt269 => ((attr_MergeV.f kj4 (([(⟨a1_0, l1_1⟩ : S27), (⟨a2_0, l2_1⟩ : S27)] : List (S27)))).bind fun bt276 => ((attr_MergeV.f kj4 (([(⟨a0_0, l0_1⟩ : S27), (⟨bt276.1, bt276.2⟩ : S27)] : List (S27)))).bind fun bt283 => ((attr_Same.f bt269.1 bt269.2 bt283.1 bt283.2).bind fun t287 => ((attr_Within.f a0_0 l0_1 a2_0 l2_1).bind fun t288 => (if t288 = true then ((attr_Within.f a1_0 l1_1 a2_0 l2_1).bind fun t289 => (if t289 = true then ((attr_Within.f t245 t246 a2_0 l2_1).bind fun t290 => (colloquylaw06_AttrJoins.j1 kj4 t257 t265 t287 t290 a0_0 l0_1 a1_0 l1_1 t245 t246)) else (colloquylaw06_AttrJoins.j1 kj4 t257 t265 t287 true a0_0 l0_1 a1_0 l1_1 t245 t246))) else (colloquylaw06_AttrJoins.j1 kj4 t257 t265 t287 true a0_0 l0_1 a1_0 l1_1 t245 t246))))))))) = some r := H
    have A39 := Aside0.mk A390
    clear A390
    obtain ⟨y258, hy258⟩ : ∃ y_ : List (S27), y_ = (([(⟨a0_0, l0_1⟩ : S27), (⟨a1_0, l1_1⟩ : S27), (⟨a0_0, l0_1⟩ : S27), (⟨t245, t246⟩ : S27)] : List (S27))) := ⟨_, rfl⟩
    replace H : ((attr_MergeV.f kj4 y258).bind fun bt261 => ((attr_Same.f t245 t246 bt261.1 bt261.2).bind fun t265 => ((attr_MergeV.f kj4 (([(⟨t245, t246⟩ : S27), (⟨a2_0, l2_1⟩ : S27)] : List (S27)))).bind fun bt269 => ((attr_MergeV.f kj4 (([(⟨a1_0, l1_1⟩ : S27), (⟨a2_0, l2_1⟩ : S27)] : List (S27)))).bind fun bt276 => ((attr_MergeV.f kj4 (([(⟨a0_0, l0_1⟩ : S27), (⟨bt276.1, bt276.2⟩ : S27)] : List (S27)))).bind fun bt283 => ((attr_Same.f bt269.1 bt269.2 bt283.1 bt283.2).bind fun t287 => ((attr_Within.f a0_0 l0_1 a2_0 l2_1).bind fun t288 => (if t288 = true then ((attr_Within.f a1_0 l1_1 a2_0 l2_1).bind fun t289 => (if t289 = true then ((attr_Within.f t245 t246 a2_0 l2_1).bind fun t290 => (colloquylaw06_AttrJoins.j1 kj4 t257 t265 t287 t290 a0_0 l0_1 a1_0 l1_1 t245 t246)) else (colloquylaw06_AttrJoins.j1 kj4 t257 t265 t287 true a0_0 l0_1 a1_0 l1_1 t245 t246))) else (colloquylaw06_AttrJoins.j1 kj4 t257 t265 t287 true a0_0 l0_1 a1_0 l1_1 t245 t246))))))))) = some r := by first | (rw [hy258]; with_reducible exact H) | (have H2_ := (Option.bind_some _ _).symm.trans H; rw [hy258]; with_reducible exact H2_) | (have H2_ := (Option.bind_some _ _).symm.trans H; with_reducible exact H2_) | with_reducible exact H | (rw [hy258]; exact H) | exact H
    have Ny258 := Aside0.mk hy258
    clear hy258
    replace H := Option.bind_eq_some_iff.mp H
    obtain ⟨⟨t261, t262⟩, A400, H⟩ := H
    replace H : ((attr_Same.f t245 t246 t261 t262).bind fun t265 => ((attr_MergeV.f kj4 (([(⟨t245, t246⟩ : S27), (⟨a2_0, l2_1⟩ : S27)] : List (S27)))).bind fun bt269 => ((attr_MergeV.f kj4 (([(⟨a1_0, l1_1⟩ : S27), (⟨a2_0, l2_1⟩ : S27)] : List (S27)))).bind fun bt276 => ((attr_MergeV.f kj4 (([(⟨a0_0, l0_1⟩ : S27), (⟨bt276.1, bt276.2⟩ : S27)] : List (S27)))).bind fun bt283 => ((attr_Same.f bt269.1 bt269.2 bt283.1 bt283.2).bind fun t287 => ((attr_Within.f a0_0 l0_1 a2_0 l2_1).bind fun t288 => (if t288 = true then ((attr_Within.f a1_0 l1_1 a2_0 l2_1).bind fun t289 => (if t289 = true then ((attr_Within.f t245 t246 a2_0 l2_1).bind fun t290 => (colloquylaw06_AttrJoins.j1 kj4 t257 t265 t287 t290 a0_0 l0_1 a1_0 l1_1 t245 t246)) else (colloquylaw06_AttrJoins.j1 kj4 t257 t265 t287 true a0_0 l0_1 a1_0 l1_1 t245 t246))) else (colloquylaw06_AttrJoins.j1 kj4 t257 t265 t287 true a0_0 l0_1 a1_0 l1_1 t245 t246)))))))) = some r := H
    have A40 := Aside0.mk A400
    clear A400
    replace H := Option.bind_eq_some_iff.mp H
    obtain ⟨t265, A410, H⟩ := H
    replace H : ((attr_MergeV.f kj4 (([(⟨t245, t246⟩ : S27), (⟨a2_0, l2_1⟩ : S27)] : List (S27)))).bind fun bt269 => ((attr_MergeV.f kj4 (([(⟨a1_0, l1_1⟩ : S27), (⟨a2_0, l2_1⟩ : S27)] : List (S27)))).bind fun bt276 => ((attr_MergeV.f kj4 (([(⟨a0_0, l0_1⟩ : S27), (⟨bt276.1, bt276.2⟩ : S27)] : List (S27)))).bind fun bt283 => ((attr_Same.f bt269.1 bt269.2 bt283.1 bt283.2).bind fun t287 => ((attr_Within.f a0_0 l0_1 a2_0 l2_1).bind fun t288 => (if t288 = true then ((attr_Within.f a1_0 l1_1 a2_0 l2_1).bind fun t289 => (if t289 = true then ((attr_Within.f t245 t246 a2_0 l2_1).bind fun t290 => (colloquylaw06_AttrJoins.j1 kj4 t257 t265 t287 t290 a0_0 l0_1 a1_0 l1_1 t245 t246)) else (colloquylaw06_AttrJoins.j1 kj4 t257 t265 t287 true a0_0 l0_1 a1_0 l1_1 t245 t246))) else (colloquylaw06_AttrJoins.j1 kj4 t257 t265 t287 true a0_0 l0_1 a1_0 l1_1 t245 t246))))))) = some r := H
    have A41 := Aside0.mk A410
    clear A410
    obtain ⟨y266, hy266⟩ : ∃ y_ : List (S27), y_ = (([(⟨t245, t246⟩ : S27), (⟨a2_0, l2_1⟩ : S27)] : List (S27))) := ⟨_, rfl⟩
    replace H : ((attr_MergeV.f kj4 y266).bind fun bt269 => ((attr_MergeV.f kj4 (([(⟨a1_0, l1_1⟩ : S27), (⟨a2_0, l2_1⟩ : S27)] : List (S27)))).bind fun bt276 => ((attr_MergeV.f kj4 (([(⟨a0_0, l0_1⟩ : S27), (⟨bt276.1, bt276.2⟩ : S27)] : List (S27)))).bind fun bt283 => ((attr_Same.f bt269.1 bt269.2 bt283.1 bt283.2).bind fun t287 => ((attr_Within.f a0_0 l0_1 a2_0 l2_1).bind fun t288 => (if t288 = true then ((attr_Within.f a1_0 l1_1 a2_0 l2_1).bind fun t289 => (if t289 = true then ((attr_Within.f t245 t246 a2_0 l2_1).bind fun t290 => (colloquylaw06_AttrJoins.j1 kj4 t257 t265 t287 t290 a0_0 l0_1 a1_0 l1_1 t245 t246)) else (colloquylaw06_AttrJoins.j1 kj4 t257 t265 t287 true a0_0 l0_1 a1_0 l1_1 t245 t246))) else (colloquylaw06_AttrJoins.j1 kj4 t257 t265 t287 true a0_0 l0_1 a1_0 l1_1 t245 t246))))))) = some r := by first | (rw [hy266]; with_reducible exact H) | (have H2_ := (Option.bind_some _ _).symm.trans H; rw [hy266]; with_reducible exact H2_) | (have H2_ := (Option.bind_some _ _).symm.trans H; with_reducible exact H2_) | with_reducible exact H | (rw [hy266]; exact H) | exact H
    have Ny266 := Aside0.mk hy266
    clear hy266
    replace H := Option.bind_eq_some_iff.mp H
    obtain ⟨⟨t269, t270⟩, A420, H⟩ := H
    replace H : ((attr_MergeV.f kj4 (([(⟨a1_0, l1_1⟩ : S27), (⟨a2_0, l2_1⟩ : S27)] : List (S27)))).bind fun bt276 => ((attr_MergeV.f kj4 (([(⟨a0_0, l0_1⟩ : S27), (⟨bt276.1, bt276.2⟩ : S27)] : List (S27)))).bind fun bt283 => ((attr_Same.f t269 t270 bt283.1 bt283.2).bind fun t287 => ((attr_Within.f a0_0 l0_1 a2_0 l2_1).bind fun t288 => (if t288 = true then ((attr_Within.f a1_0 l1_1 a2_0 l2_1).bind fun t289 => (if t289 = true then ((attr_Within.f t245 t246 a2_0 l2_1).bind fun t290 => (colloquylaw06_AttrJoins.j1 kj4 t257 t265 t287 t290 a0_0 l0_1 a1_0 l1_1 t245 t246)) else (colloquylaw06_AttrJoins.j1 kj4 t257 t265 t287 true a0_0 l0_1 a1_0 l1_1 t245 t246))) else (colloquylaw06_AttrJoins.j1 kj4 t257 t265 t287 true a0_0 l0_1 a1_0 l1_1 t245 t246)))))) = some r := H
    have A42 := Aside0.mk A420
    clear A420
    obtain ⟨y273, hy273⟩ : ∃ y_ : List (S27), y_ = (([(⟨a1_0, l1_1⟩ : S27), (⟨a2_0, l2_1⟩ : S27)] : List (S27))) := ⟨_, rfl⟩
    replace H : ((attr_MergeV.f kj4 y273).bind fun bt276 => ((attr_MergeV.f kj4 (([(⟨a0_0, l0_1⟩ : S27), (⟨bt276.1, bt276.2⟩ : S27)] : List (S27)))).bind fun bt283 => ((attr_Same.f t269 t270 bt283.1 bt283.2).bind fun t287 => ((attr_Within.f a0_0 l0_1 a2_0 l2_1).bind fun t288 => (if t288 = true then ((attr_Within.f a1_0 l1_1 a2_0 l2_1).bind fun t289 => (if t289 = true then ((attr_Within.f t245 t246 a2_0 l2_1).bind fun t290 => (colloquylaw06_AttrJoins.j1 kj4 t257 t265 t287 t290 a0_0 l0_1 a1_0 l1_1 t245 t246)) else (colloquylaw06_AttrJoins.j1 kj4 t257 t265 t287 true a0_0 l0_1 a1_0 l1_1 t245 t246))) else (colloquylaw06_AttrJoins.j1 kj4 t257 t265 t287 true a0_0 l0_1 a1_0 l1_1 t245 t246)))))) = some r := by first | (rw [hy273]; with_reducible exact H) | (have H2_ := (Option.bind_some _ _).symm.trans H; rw [hy273]; with_reducible exact H2_) | (have H2_ := (Option.bind_some _ _).symm.trans H; with_reducible exact H2_) | with_reducible exact H | (rw [hy273]; exact H) | exact H
    have Ny273 := Aside0.mk hy273
    clear hy273
    replace H := Option.bind_eq_some_iff.mp H
    obtain ⟨⟨t276, t277⟩, A430, H⟩ := H
    replace H : ((attr_MergeV.f kj4 (([(⟨a0_0, l0_1⟩ : S27), (⟨t276, t277⟩ : S27)] : List (S27)))).bind fun bt283 => ((attr_Same.f t269 t270 bt283.1 bt283.2).bind fun t287 => ((attr_Within.f a0_0 l0_1 a2_0 l2_1).bind fun t288 => (if t288 = true then ((attr_Within.f a1_0 l1_1 a2_0 l2_1).bind fun t289 => (if t289 = true then ((attr_Within.f t245 t246 a2_0 l2_1).bind fun t290 => (colloquylaw06_AttrJoins.j1 kj4 t257 t265 t287 t290 a0_0 l0_1 a1_0 l1_1 t245 t246)) else (colloquylaw06_AttrJoins.j1 kj4 t257 t265 t287 true a0_0 l0_1 a1_0 l1_1 t245 t246))) else (colloquylaw06_AttrJoins.j1 kj4 t257 t265 t287 true a0_0 l0_1 a1_0 l1_1 t245 t246))))) = some r := H
    have A43 := Aside0.mk A430
    clear A430
    obtain ⟨y280, hy280⟩ : ∃ y_ : List (S27), y_ = (([(⟨a0_0, l0_1⟩ : S27), (⟨t276, t277⟩ : S27)] : List (S27))) := ⟨_, rfl⟩
    replace H : ((attr_MergeV.f kj4 y280).bind fun bt283 => ((attr_Same.f t269 t270 bt283.1 bt283.2).bind fun t287 => ((attr_Within.f a0_0 l0_1 a2_0 l2_1).bind fun t288 => (if t288 = true then ((attr_Within.f a1_0 l1_1 a2_0 l2_1).bind fun t289 => (if t289 = true then ((attr_Within.f t245 t246 a2_0 l2_1).bind fun t290 => (colloquylaw06_AttrJoins.j1 kj4 t257 t265 t287 t290 a0_0 l0_1 a1_0 l1_1 t245 t246)) else (colloquylaw06_AttrJoins.j1 kj4 t257 t265 t287 true a0_0 l0_1 a1_0 l1_1 t245 t246))) else (colloquylaw06_AttrJoins.j1 kj4 t257 t265 t287 true a0_0 l0_1 a1_0 l1_1 t245 t246))))) = some r := by first | (rw [hy280]; with_reducible exact H) | (have H2_ := (Option.bind_some _ _).symm.trans H; rw [hy280]; with_reducible exact H2_) | (have H2_ := (Option.bind_some _ _).symm.trans H; with_reducible exact H2_) | with_reducible exact H | (rw [hy280]; exact H) | exact H
    have Ny280 := Aside0.mk hy280
    clear hy280
    replace H := Option.bind_eq_some_iff.mp H
    obtain ⟨⟨t283, t284⟩, A440, H⟩ := H
    replace H : ((attr_Same.f t269 t270 t283 t284).bind fun t287 => ((attr_Within.f a0_0 l0_1 a2_0 l2_1).bind fun t288 => (if t288 = true then ((attr_Within.f a1_0 l1_1 a2_0 l2_1).bind fun t289 => (if t289 = true then ((attr_Within.f t245 t246 a2_0 l2_1).bind fun t290 => (colloquylaw06_AttrJoins.j1 kj4 t257 t265 t287 t290 a0_0 l0_1 a1_0 l1_1 t245 t246)) else (colloquylaw06_AttrJoins.j1 kj4 t257 t265 t287 true a0_0 l0_1 a1_0 l1_1 t245 t246))) else (colloquylaw06_AttrJoins.j1 kj4 t257 t265 t287 true a0_0 l0_1 a1_0 l1_1 t245 t246)))) = some r := H
    have A44 := Aside0.mk A440
    clear A440
    replace H := Option.bind_eq_some_iff.mp H
    obtain ⟨t287, A450, H⟩ := H
    replace H : ((attr_Within.f a0_0 l0_1 a2_0 l2_1).bind fun t288 => (if t288 = true then ((attr_Within.f a1_0 l1_1 a2_0 l2_1).bind fun t289 => (if t289 = true then ((attr_Within.f t245 t246 a2_0 l2_1).bind fun t290 => (colloquylaw06_AttrJoins.j1 kj4 t257 t265 t287 t290 a0_0 l0_1 a1_0 l1_1 t245 t246)) else (colloquylaw06_AttrJoins.j1 kj4 t257 t265 t287 true a0_0 l0_1 a1_0 l1_1 t245 t246))) else (colloquylaw06_AttrJoins.j1 kj4 t257 t265 t287 true a0_0 l0_1 a1_0 l1_1 t245 t246))) = some r := H
    have A45 := Aside0.mk A450
    clear A450
    have HC46 := Aside0.mk H
    clear H
    have hnb47 := NB235_236.out
    have hnc47 := NB236_235.out
    have hnb48 := NB235_237.out
    have hnc48 := NB237_235.out
    obtain ⟨hcz49_0, hcz49_1⟩ := blk_cells2 BK235.out
    obtain ⟨hfz49_0, hfz49_1⟩ := blk_frozens2 BK235.out
    have hnb50 := NB236_237.out
    have hnc50 := NB237_236.out
    obtain ⟨hcz51_0, hcz51_1⟩ := blk_cells2 BK236.out
    obtain ⟨hfz51_0, hfz51_1⟩ := blk_frozens2 BK236.out
    try go_wp2_with (first | ((with_reducible refine gate_dst (N := 34) rfl ?_); refine Kd.N_lit k27 _ 27 ?hg (N' := 34) ?hd (xs := ([(⟨a0_0, l0_1⟩ : S27), (⟨a1_0, l1_1⟩ : S27)] : List (S27))) (inner := [.int .i64 a0_0, .slice A0_1 l0_1.length c0_1, .int .i64 a1_0, .slice A1_1 l1_1.length c1_1]) (ok := (fun k_ => ((P0_1_ k_ ∨ P1_1_ k_ ∨ P2_1_ k_) ∨ w.heap.size ≤ k_) ∧ k_ ≠ gb235 ∧ k_ ≠ gb236 ∧ k_ ≠ gb237)) (okp := (fun k_ => ((P0_1_ k_ ∨ P1_1_ k_ ∨ P2_1_ k_) ∨ w.heap.size ≤ k_) ∧ k_ ≠ gb235 ∧ k_ ≠ gb236 ∧ k_ ≠ gb237)) ?hr ?hp (fun _ hk => hk) ((show ∀ k_, wc.heap.size ≤ k_ → (fun k_ => ((P0_1_ k_ ∨ P1_1_ k_ ∨ P2_1_ k_) ∨ w.heap.size ≤ k_) ∧ k_ ≠ gb235 ∧ k_ ≠ gb236 ∧ k_ ≠ gb237) k_ from fun k_ hk => ⟨(.inr (Nat.le_trans (below_size (gw_ HB)) hk)), Kd.freshB (g := gb235) (bk BK235) k_ hk, Kd.freshB (g := gb236) (bk BK236) k_ hk, Kd.freshB (g := gb237) (bk BK237) k_ hk⟩) _ (Nat.le_refl _)) (Below.refl _ _) (Nat.le_refl _) (by simp) ?_; (case hd => rfl); (case hg => rfl); (case hr => first | (go_simp; done) | (go_simp; rfl)); (case hp => exact (Reps.c2 (show Kd.FK k27 _ _ (⟨a0_0, l0_1⟩ : S27) [.int .i64 a0_0, .slice A0_1 l0_1.length c0_1] from (k27_mkF _ _ (⟨a0_0, l0_1⟩ : S27) (Kd.V_reads' (Kd.V_mono (ok' := (fun k_ => ((P0_1_ k_ ∨ P1_1_ k_ ∨ P2_1_ k_) ∨ w.heap.size ≤ k_) ∧ k_ ≠ gb235 ∧ k_ ≠ gb236 ∧ k_ ≠ gb237)) (HO_236001.out) (fun k_ hk => (by first | exact ⟨hk.1, ⟨hk.2.1, ⟨hk.2.2.1, hk.2.2.2⟩⟩⟩ | simp [hk])))).2.1 (Kd.V_F (Kd.V_mono (ok' := (fun k_ => ((P0_1_ k_ ∨ P1_1_ k_ ∨ P2_1_ k_) ∨ w.heap.size ≤ k_) ∧ k_ ≠ gb235 ∧ k_ ≠ gb236 ∧ k_ ≠ gb237)) (HO_236001.out) (fun k_ hk => (by first | exact ⟨hk.1, ⟨hk.2.1, ⟨hk.2.2.1, hk.2.2.2⟩⟩⟩ | simp [hk])))))) (Reps.c2 (show Kd.FK k27 _ _ (⟨a1_0, l1_1⟩ : S27) [.int .i64 a1_0, .slice A1_1 l1_1.length c1_1] from (k27_mkF _ _ (⟨a1_0, l1_1⟩ : S27) (Kd.V_reads' (Kd.V_mono (ok' := (fun k_ => ((P0_1_ k_ ∨ P1_1_ k_ ∨ P2_1_ k_) ∨ w.heap.size ≤ k_) ∧ k_ ≠ gb235 ∧ k_ ≠ gb236 ∧ k_ ≠ gb237)) (HO_237001.out) (fun k_ hk => (by first | exact ⟨hk.1, ⟨hk.2.1, ⟨hk.2.2.1, hk.2.2.2⟩⟩⟩ | simp [hk])))).2.1 (Kd.V_F (Kd.V_mono (ok' := (fun k_ => ((P0_1_ k_ ∨ P1_1_ k_ ∨ P2_1_ k_) ∨ w.heap.size ≤ k_) ∧ k_ ≠ gb235 ∧ k_ ≠ gb236 ∧ k_ ≠ gb237)) (HO_237001.out) (fun k_ hk => (by first | exact ⟨hk.1, ⟨hk.2.1, ⟨hk.2.2.1, hk.2.2.2⟩⟩⟩ | simp [hk])))))) (Reps.none _ _)))); intro v243 w52 ho53 hb hg_ hnew_; clear hg_ hnew_; (first | rw [← Ny242.out] at ho53 | (simp only [Int.reduceToNat] at ho53; rw [← Ny242.out] at ho53)); have n0_ := Aside0.mk (Kd.V_elder' (Kd.vk HO_236001) (Kd.N_base ho53) hb); have n1_ := Aside0.mk (Kd.V_elder' (Kd.vk HO_237001) (Kd.N_base ho53) hb); have n2_ := Aside0.mk (Kd.V_elder' (Kd.vk HO_238001) (Kd.N_base ho53) hb); have n3_ := Aside0.mk (Kd.N_lower ho53 (below_size (gw_ HB))); have n4_ := Aside0.mk (blk_below (g := gb235) (bk BK235) hb); have n5_ := Aside0.mk (blk_below (g := gb236) (bk BK236) hb); have n6_ := Aside0.mk (blk_below (g := gb237) (bk BK237) hb); have n7_ := Aside0.mk (below_step (gw_ HB) hb); clear HO_236001; clear HO_237001; clear HO_238001; clear BK235; clear BK236; clear BK237; clear HB; have HO_236001 := n0_; have HO_237001 := n1_; have HO_238001 := n2_; have HO244 := n3_; have BK235 := n4_; have BK236 := n5_; have BK237 := n6_; have HB := n7_; clear n0_ n1_ n2_ n3_ n4_ n5_ n6_ n7_; clear hb ho53; obtain ⟨Ao54, co54, eo54⟩ := Kd.N_slice HO244.out; subst eo54) | ((with_reducible refine gate_callee (f := 11) rfl ?_); refine goesL_ (some 35) rfl rfl Try.func11 (by kernel_rfl) rfl #[.slice Ao54 y242.length co54] rfl (by (try simp only [List.map_toArray, List.map_cons, List.map_nil]); first | done | rfl | (simp only [List.length_drop, List.length_take]; rfl)) ?_; (with_reducible refine (attr_MergeV.calls kj4 _ _ y242 t245 t246 _ ?side1 ?side2 A37.out).mono ?_); (case side1 => repeat (first | exact (Kd.N_reads' HO244.out).2.2 | (with_reducible refine Kd.C_alloc ?_ _) | (with_reducible refine Kd.C_drewN ?_ _) | (with_reducible refine Kd.C_drew ?_))); (case side2 => exact (Kd.N_reads' HO244.out).2.1); rintro e w55 ⟨v247, rfl, ho0, hb⟩; refine ⟨_, rfl, ?_⟩; have n0_ := Aside0.mk (Kd.V_below (Kd.vk HO_236001) hb); have n1_ := Aside0.mk (Kd.V_below (Kd.vk HO_237001) hb); have n2_ := Aside0.mk (Kd.V_below (Kd.vk HO_238001) hb); have n3_ := Aside0.mk (Kd.N_below (Kd.nk HO244) hb); have n4_ := Aside0.mk (Kd.V_lower (Kd.V_mono (ok' := fun k_ => ((P0_1_ k_ ∨ P1_1_ k_ ∨ P2_1_ k_) ∨ w.heap.size ≤ k_) ∧ some k_ ≠ (.slice Ao54 y242.length co54 : Value).ownBlock ∧ k_ ≠ gb235 ∧ k_ ≠ gb236 ∧ k_ ≠ gb237) ho0 (fun k_ hk_ => ⟨(.inr (Nat.le_trans (below_size (gw_ HB)) hk_)), (Kd.fresh' (Kd.N_lt (Kd.nk HO244)) k_ hk_), (Kd.freshB (g := gb235) (bk BK235) k_ hk_), (Kd.freshB (g := gb236) (bk BK236) k_ hk_), (Kd.freshB (g := gb237) (bk BK237) k_ hk_)⟩)) (below_size (gw_ HB))); have n5_ := Aside0.mk (blk_below (g := gb235) (bk BK235) hb); have n6_ := Aside0.mk (blk_below (g := gb236) (bk BK236) hb); have n7_ := Aside0.mk (blk_below (g := gb237) (bk BK237) hb); have n8_ := Aside0.mk (below_step (gw_ HB) hb); clear HO_236001; clear HO_237001; clear HO_238001; clear HO244; clear BK235; clear BK236; clear BK237; clear HB; have HO_236001 := n0_; have HO_237001 := n1_; have HO_238001 := n2_; have HO244 := n3_; have HO248 := n4_; have BK235 := n5_; have BK236 := n6_; have BK237 := n7_; have HB := n8_; clear n0_ n1_ n2_ n3_ n4_ n5_ n6_ n7_ n8_; (try clear hb); (try clear hb2); (try clear hk); (try clear hi); (try clear ho0)) | ((with_reducible refine gate_dst (N := 8) rfl ?_); refine box_event ?hg (N := 8) ?hd (cs := #[.int .i64 0, .slice none 0 0]) (t := 27) ?hr ?_; (case hd => rfl); (case hg => rfl); (case hr => first | (go_simp; done) | (go_simp; rfl)); intro gb249 hg w56 hbox hb; have n0_ := Aside0.mk (Kd.V_below (Kd.V_elderB (Kd.vk HO_236001) gb249 (Nat.le_of_eq hg.symm)) hb); have n1_ := Aside0.mk (Kd.V_below (Kd.V_elderB (Kd.vk HO_237001) gb249 (Nat.le_of_eq hg.symm)) hb); have n2_ := Aside0.mk (Kd.V_below (Kd.V_elderB (Kd.vk HO_238001) gb249 (Nat.le_of_eq hg.symm)) hb); have n3_ := Aside0.mk (Kd.N_below (Kd.N_elderB (Kd.nk HO244) gb249 (Nat.le_of_eq hg.symm)) hb); have n4_ := Aside0.mk (Kd.V_below (Kd.V_elderB (Kd.vk HO248) gb249 (Nat.le_of_eq hg.symm)) hb); have n5_ := Aside0.mk (blk_below (g := gb235) (bk BK235) hb); have n6_ := Aside0.mk (blk_below (g := gb236) (bk BK236) hb); have n7_ := Aside0.mk (blk_below (g := gb237) (bk BK237) hb); have s_ := step_size_ (gw_ HB) hb hg; have n8_ := Aside0.mk s_.1; have n9_ := Aside0.mk (hbox); have n10_ := Aside0.mk s_.2; clear s_; have n11_ := n10_; have l_ := blk_lt_ (g := gb235) hg (bk BK235); have n12_ := Aside0.mk (Nat.ne_of_lt l_); have n13_ := Aside0.mk (Nat.ne_of_gt l_); clear l_; have l_ := blk_lt_ (g := gb236) hg (bk BK236); have n14_ := Aside0.mk (Nat.ne_of_lt l_); have n15_ := Aside0.mk (Nat.ne_of_gt l_); clear l_; have l_ := blk_lt_ (g := gb237) hg (bk BK237); have n16_ := Aside0.mk (Nat.ne_of_lt l_); have n17_ := Aside0.mk (Nat.ne_of_gt l_); clear l_; clear HO_236001; clear HO_237001; clear HO_238001; clear HO244; clear HO248; clear BK235; clear BK236; clear BK237; clear HB; have HO_236001 := n0_; have HO_237001 := n1_; have HO_238001 := n2_; have HO244 := n3_; have HO248 := n4_; have BK235 := n5_; have BK236 := n6_; have BK237 := n7_; have HB := n8_; have BK249 := n9_; have GW249 := n10_; have GE249 := n11_; have NB235_249 := n12_; have NB249_235 := n13_; have NB236_249 := n14_; have NB249_236 := n15_; have NB237_249 := n16_; have NB249_237 := n17_; clear n0_ n1_ n2_ n3_ n4_ n5_ n6_ n7_ n8_ n9_ n10_ n11_ n12_ n13_ n14_ n15_ n16_ n17_; clear hb hbox hg; have hnb57 := NB249_235.out; have hnc57 := NB235_249.out; have hnb58 := NB249_236.out; have hnc58 := NB236_249.out; have hnb59 := NB249_237.out; have hnc59 := NB237_249.out; obtain ⟨hcz60_0, hcz60_1⟩ := blk_cells2 BK249.out; obtain ⟨hfz60_0, hfz60_1⟩ := blk_frozens2 BK249.out; obtain ⟨Ao61, co61, eo61⟩ := Kd.V_slice HO248.out; subst eo61))
    have n0_ : Aside0 (Kd.V (Kd.int .i64) 3 ((w56.setCell ⟨gb249, 0, none⟩ (.int .i64 t245)).setCell ⟨gb249, 1, none⟩ (.slice Ao61 t246.length co61)) w.heap.size (fun k_ => ((P0_1_ k_ ∨ P1_1_ k_ ∨ P2_1_ k_) ∨ w.heap.size ≤ k_) ∧ some k_ ≠ (.slice Ao54 y242.length co54 : Value).ownBlock ∧ k_ ≠ gb235 ∧ k_ ≠ gb236 ∧ k_ ≠ gb237 ∧ k_ ≠ gb249) (.slice A0_1 l0_1.length c0_1) l0_1) := ⟨by (with_reducible repeat (first | apply Kd.V_alloc | apply Kd.V_drewN | apply Kd.V_drew)); exact Kd.V_mono (Kd.V_far (p := ⟨gb249, 1, none⟩) (Kd.V_far (p := ⟨gb249, 0, none⟩) (Kd.V_mono HO_236001.out (fun k_ hk => (⟨hk, hk.2⟩ : _ ∧ k_ ≠ gb249))) (fun _ hk => (by first | exact hk.2 | simp [hk])) (.int .i64 t245)) (fun _ hk => (by first | exact hk.2 | simp [hk])) (.slice Ao61 t246.length co61)) (fun _ hk => (by first | exact ⟨hk.1.1.1.1, ⟨hk.1.1.2, ⟨hk.1.1.1.2.1, ⟨hk.1.1.1.2.2.1, ⟨hk.1.1.1.2.2.2, hk.1.2⟩⟩⟩⟩⟩ | simp [hk]))⟩
    have n1_ : Aside0 (Kd.V (Kd.int .i64) 3 ((w56.setCell ⟨gb249, 0, none⟩ (.int .i64 t245)).setCell ⟨gb249, 1, none⟩ (.slice Ao61 t246.length co61)) w.heap.size (fun k_ => ((P0_1_ k_ ∨ P1_1_ k_ ∨ P2_1_ k_) ∨ w.heap.size ≤ k_) ∧ some k_ ≠ (.slice Ao54 y242.length co54 : Value).ownBlock ∧ k_ ≠ gb235 ∧ k_ ≠ gb236 ∧ k_ ≠ gb237 ∧ k_ ≠ gb249) (.slice A1_1 l1_1.length c1_1) l1_1) := ⟨by (with_reducible repeat (first | apply Kd.V_alloc | apply Kd.V_drewN | apply Kd.V_drew)); exact Kd.V_mono (Kd.V_far (p := ⟨gb249, 1, none⟩) (Kd.V_far (p := ⟨gb249, 0, none⟩) (Kd.V_mono HO_237001.out (fun k_ hk => (⟨hk, hk.2⟩ : _ ∧ k_ ≠ gb249))) (fun _ hk => (by first | exact hk.2 | simp [hk])) (.int .i64 t245)) (fun _ hk => (by first | exact hk.2 | simp [hk])) (.slice Ao61 t246.length co61)) (fun _ hk => (by first | exact ⟨hk.1.1.1.1, ⟨hk.1.1.2, ⟨hk.1.1.1.2.1, ⟨hk.1.1.1.2.2.1, ⟨hk.1.1.1.2.2.2, hk.1.2⟩⟩⟩⟩⟩ | simp [hk]))⟩
    have n2_ : Aside0 (Kd.V (Kd.int .i64) 3 ((w56.setCell ⟨gb249, 0, none⟩ (.int .i64 t245)).setCell ⟨gb249, 1, none⟩ (.slice Ao61 t246.length co61)) w.heap.size (fun k_ => ((P0_1_ k_ ∨ P1_1_ k_ ∨ P2_1_ k_) ∨ w.heap.size ≤ k_) ∧ some k_ ≠ (.slice Ao54 y242.length co54 : Value).ownBlock ∧ k_ ≠ gb235 ∧ k_ ≠ gb236 ∧ k_ ≠ gb237 ∧ k_ ≠ gb249) (.slice A2_1 l2_1.length c2_1) l2_1) := ⟨by (with_reducible repeat (first | apply Kd.V_alloc | apply Kd.V_drewN | apply Kd.V_drew)); exact Kd.V_mono (Kd.V_far (p := ⟨gb249, 1, none⟩) (Kd.V_far (p := ⟨gb249, 0, none⟩) (Kd.V_mono HO_238001.out (fun k_ hk => (⟨hk, hk.2⟩ : _ ∧ k_ ≠ gb249))) (fun _ hk => (by first | exact hk.2 | simp [hk])) (.int .i64 t245)) (fun _ hk => (by first | exact hk.2 | simp [hk])) (.slice Ao61 t246.length co61)) (fun _ hk => (by first | exact ⟨hk.1.1.1.1, ⟨hk.1.1.2, ⟨hk.1.1.1.2.1, ⟨hk.1.1.1.2.2.1, ⟨hk.1.1.1.2.2.2, hk.1.2⟩⟩⟩⟩⟩ | simp [hk]))⟩
    have n3_ : Aside0 (Kd.N k27 27 ((w56.setCell ⟨gb249, 0, none⟩ (.int .i64 t245)).setCell ⟨gb249, 1, none⟩ (.slice Ao61 t246.length co61)) w.heap.size (fun k_ => ((P0_1_ k_ ∨ P1_1_ k_ ∨ P2_1_ k_) ∨ w.heap.size ≤ k_) ∧ k_ ≠ gb235 ∧ k_ ≠ gb236 ∧ k_ ≠ gb237 ∧ k_ ≠ gb249) (.slice Ao54 y242.length co54) y242) := ⟨by (with_reducible repeat (first | apply Kd.N_alloc | apply Kd.N_drewN | apply Kd.N_drew)); exact Kd.N_mono (Kd.N_far (p := ⟨gb249, 1, none⟩) (Kd.N_far (p := ⟨gb249, 0, none⟩) (Kd.N_mono HO244.out (fun k_ hk => (⟨hk, hk.2⟩ : _ ∧ k_ ≠ gb249))) (fun _ hk => (by first | exact hk.2 | simp [hk])) (.int .i64 t245)) (fun _ hk => (by first | exact hk.2 | simp [hk])) (.slice Ao61 t246.length co61)) (fun _ hk => (by first | exact ⟨hk.1.1.1, ⟨hk.1.1.2.1, ⟨hk.1.1.2.2.1, ⟨hk.1.1.2.2.2, hk.1.2⟩⟩⟩⟩ | simp [hk]))⟩
    have n4_ : Aside0 (Kd.V (Kd.int .i64) 3 ((w56.setCell ⟨gb249, 0, none⟩ (.int .i64 t245)).setCell ⟨gb249, 1, none⟩ (.slice Ao61 t246.length co61)) w.heap.size (fun k_ => ((P0_1_ k_ ∨ P1_1_ k_ ∨ P2_1_ k_) ∨ w.heap.size ≤ k_) ∧ some k_ ≠ (.slice Ao54 y242.length co54 : Value).ownBlock ∧ k_ ≠ gb235 ∧ k_ ≠ gb236 ∧ k_ ≠ gb237 ∧ k_ ≠ gb249) (.slice Ao61 t246.length co61) t246) := ⟨by (with_reducible repeat (first | apply Kd.V_alloc | apply Kd.V_drewN | apply Kd.V_drew)); exact Kd.V_mono (Kd.V_far (p := ⟨gb249, 1, none⟩) (Kd.V_far (p := ⟨gb249, 0, none⟩) (Kd.V_mono HO248.out (fun k_ hk => (⟨hk, hk.2⟩ : _ ∧ k_ ≠ gb249))) (fun _ hk => (by first | exact hk.2 | simp [hk])) (.int .i64 t245)) (fun _ hk => (by first | exact hk.2 | simp [hk])) (.slice Ao61 t246.length co61)) (fun _ hk => (by first | exact ⟨hk.1.1.1, ⟨hk.1.1.2.1, ⟨hk.1.1.2.2.1, ⟨hk.1.1.2.2.2.1, ⟨hk.1.1.2.2.2.2, hk.1.2⟩⟩⟩⟩⟩ | simp [hk]))⟩
    have n5_ : Aside0 (((w56.setCell ⟨gb249, 0, none⟩ (.int .i64 t245)).setCell ⟨gb249, 1, none⟩ (.slice Ao61 t246.length co61)).heap[gb235]? = some (.cells #[.int .i64 a0_0, .slice A0_1 l0_1.length c0_1] 27 (0, 0))) := ⟨by (with_reducible repeat (first | refine blk_drewN ?_ _ | refine blk_drew ?_ | refine blk_alloc ?_ _)); refine blk_far ?_ NB235_249.out _; (with_reducible repeat (first | refine blk_drewN ?_ _ | refine blk_drew ?_ | refine blk_alloc ?_ _)); refine blk_far ?_ NB235_249.out _; (with_reducible repeat (first | refine blk_drewN ?_ _ | refine blk_drew ?_ | refine blk_alloc ?_ _)); exact BK235.out⟩
    have n6_ : Aside0 (((w56.setCell ⟨gb249, 0, none⟩ (.int .i64 t245)).setCell ⟨gb249, 1, none⟩ (.slice Ao61 t246.length co61)).heap[gb236]? = some (.cells #[.int .i64 a1_0, .slice A1_1 l1_1.length c1_1] 27 (0, 0))) := ⟨by (with_reducible repeat (first | refine blk_drewN ?_ _ | refine blk_drew ?_ | refine blk_alloc ?_ _)); refine blk_far ?_ NB236_249.out _; (with_reducible repeat (first | refine blk_drewN ?_ _ | refine blk_drew ?_ | refine blk_alloc ?_ _)); refine blk_far ?_ NB236_249.out _; (with_reducible repeat (first | refine blk_drewN ?_ _ | refine blk_drew ?_ | refine blk_alloc ?_ _)); exact BK236.out⟩
    have n7_ : Aside0 (((w56.setCell ⟨gb249, 0, none⟩ (.int .i64 t245)).setCell ⟨gb249, 1, none⟩ (.slice Ao61 t246.length co61)).heap[gb237]? = some (.cells #[.int .i64 a2_0, .slice A2_1 l2_1.length c2_1] 27 (0, 0))) := ⟨by (with_reducible repeat (first | refine blk_drewN ?_ _ | refine blk_drew ?_ | refine blk_alloc ?_ _)); refine blk_far ?_ NB237_249.out _; (with_reducible repeat (first | refine blk_drewN ?_ _ | refine blk_drew ?_ | refine blk_alloc ?_ _)); refine blk_far ?_ NB237_249.out _; (with_reducible repeat (first | refine blk_drewN ?_ _ | refine blk_drew ?_ | refine blk_alloc ?_ _)); exact BK237.out⟩
    have n8_ : Aside0 (((w56.setCell ⟨gb249, 0, none⟩ (.int .i64 t245)).setCell ⟨gb249, 1, none⟩ (.slice Ao61 t246.length co61)).heap[gb249]? = some (.cells #[.int .i64 t245, .slice Ao61 t246.length co61] 27 (0, 0))) := ⟨by (with_reducible repeat (first | refine blk_drewN ?_ _ | refine blk_drew ?_ | refine blk_alloc ?_ _)); refine blk_put (cs := #[.int .i64 t245, .slice none 0 0]) ?_ 1 _ rfl; (with_reducible repeat (first | refine blk_drewN ?_ _ | refine blk_drew ?_ | refine blk_alloc ?_ _)); refine blk_put (cs := #[.int .i64 0, .slice none 0 0]) ?_ 0 _ rfl; (with_reducible repeat (first | refine blk_drewN ?_ _ | refine blk_drew ?_ | refine blk_alloc ?_ _)); exact BK249.out⟩
    have n9_ : Aside0 (Below w.heap.size w ((w56.setCell ⟨gb249, 0, none⟩ (.int .i64 t245)).setCell ⟨gb249, 1, none⟩ (.slice Ao61 t246.length co61))) := ⟨gw_ HB⟩
    (try clear HO_236001)
    (try clear HO_237001)
    (try clear HO_238001)
    (try clear HO244)
    (try clear HO248)
    (try clear BK235)
    (try clear BK236)
    (try clear BK237)
    (try clear BK249)
    (try clear HB)
    generalize ((w56.setCell ⟨gb249, 0, none⟩ (.int .i64 t245)).setCell ⟨gb249, 1, none⟩ (.slice Ao61 t246.length co61)) = w62 at n0_ n1_ n2_ n3_ n4_ n5_ n6_ n7_ n8_ n9_ ⊢
    have HO_236001 := n0_
    have HO_237001 := n1_
    have HO_238001 := n2_
    have HO244 := n3_
    have HO248 := n4_
    have BK235 := n5_
    have BK236 := n6_
    have BK237 := n7_
    have BK249 := n8_
    have HB := n9_
    clear n0_ n1_ n2_ n3_ n4_ n5_ n6_ n7_ n8_ n9_
    have n0_ := Aside0.mk (Kd.V_drew HO_236001.out)
    have n1_ := Aside0.mk (Kd.V_drew HO_237001.out)
    have n2_ := Aside0.mk (Kd.V_drew HO_238001.out)
    have n3_ := Aside0.mk (Kd.N_drew HO244.out)
    have n4_ := Aside0.mk (Kd.V_drew HO248.out)
    have n5_ := Aside0.mk (blk_drew BK235.out)
    have n6_ := Aside0.mk (blk_drew BK236.out)
    have n7_ := Aside0.mk (blk_drew BK237.out)
    have n8_ := Aside0.mk (blk_drew BK249.out)
    have n9_ := Aside0.mk (below_drew1 HB.out)
    clear HO_236001
    clear HO_237001
    clear HO_238001
    clear HO244
    clear HO248
    clear BK235
    clear BK236
    clear BK237
    clear BK249
    clear HB
    have HO_236001 := n0_
    have HO_237001 := n1_
    have HO_238001 := n2_
    have HO244 := n3_
    have HO248 := n4_
    have BK235 := n5_
    have BK236 := n6_
    have BK237 := n7_
    have BK249 := n8_
    have HB := n9_
    clear n0_ n1_ n2_ n3_ n4_ n5_ n6_ n7_ n8_ n9_
    refine start_ (n := 7) (S := fun w' => w'.cell? ⟨gb249, 0, none⟩ = some (.int .i64 t245) ∧ w'.cell? ⟨gb249, 1, none⟩ = some (.slice Ao61 t246.length co61) ∧ w'.cell? ⟨gb236, 0, none⟩ = some (.int .i64 a1_0) ∧ w'.cell? ⟨gb236, 1, none⟩ = some (.slice A1_1 l1_1.length c1_1) ∧ w'.cell? ⟨gb235, 0, none⟩ = some (.int .i64 a0_0) ∧ w'.cell? ⟨gb235, 1, none⟩ = some (.slice A0_1 l0_1.length c0_1)) (ds := []) #[false, false, false, false, false, false, false] (by kernel_rfl) rfl rfl ⟨(blk_cell BK249.out 0).trans rfl, (blk_cell BK249.out 1).trans rfl, (blk_cell BK236.out 0).trans rfl, (blk_cell BK236.out 1).trans rfl, (blk_cell BK235.out 0).trans rfl, (blk_cell BK235.out 1).trans rfl⟩ (fun hHeld => ?_)
    generalize w62.drew = w63 at HO_236001 HO_237001 HO_238001 HO244 HO248 BK235 BK236 BK237 BK249 HB hHeld ⊢
    refine take_ (i := 0) (N := some 36) (v := ?_) (a' := ?_) #[true, false, false, false, false, false, false] rfl rfl (by kernel_rfl) (fun _ _ _ h => h) (Or.inl ⟨by rfl, ?_⟩) hHeld ?_ ?_
    rotate_left
    ·
     rintro w' ⟨s0, s1, s2, s3, s4, s5⟩
     go_simp
     with_reducible rfl
    rotate_left
    ·
     simp only [Act.put, List.setIfInBounds_toArray, List.set_cons_zero, List.set_cons_succ, i64_w, i32_w]
     rfl
    refine take_ (i := 1) (N := some 37) (v := ?_) (a' := ?_) #[true, true, false, false, false, false, false] rfl rfl (by kernel_rfl) (fun _ _ _ h => h) (Or.inl ⟨by rfl, ?_⟩) hHeld ?_ ?_
    rotate_left
    ·
     rintro w' ⟨s0, s1, s2, s3, s4, s5⟩
     go_simp
     with_reducible rfl
    rotate_left
    ·
     simp only [Act.put, List.setIfInBounds_toArray, List.set_cons_zero, List.set_cons_succ, i64_w, i32_w]
     rfl
    refine take_ (i := 2) (N := some 38) (v := ?_) (a' := ?_) #[true, true, true, false, false, false, false] rfl rfl (by kernel_rfl) (fun _ _ _ h => h) (Or.inl ⟨by rfl, ?_⟩) hHeld ?_ ?_
    rotate_left
    ·
     rintro w' ⟨s0, s1, s2, s3, s4, s5⟩
     go_simp
     with_reducible rfl
    rotate_left
    ·
     simp only [Act.put, List.setIfInBounds_toArray, List.set_cons_zero, List.set_cons_succ, i64_w, i32_w]
     rfl
    refine one_ (i := 3) (N := some 39) #[true, true, true, true, false, false, false] rfl rfl (by kernel_rfl) (by decide) (fun K hK => ?_)
    refine Kd.N_lit_step k27 _ 27 ?hg (N' := 39) ?hd (xs := ([(⟨a1_0, l1_1⟩ : S27), (⟨a0_0, l0_1⟩ : S27)] : List (S27))) (inner := [.int .i64 a1_0, .slice A1_1 l1_1.length c1_1, .int .i64 a0_0, .slice A0_1 l0_1.length c0_1]) (ok := (fun k_ => ((P0_1_ k_ ∨ P1_1_ k_ ∨ P2_1_ k_) ∨ w.heap.size ≤ k_) ∧ some k_ ≠ (.slice Ao54 y242.length co54 : Value).ownBlock ∧ k_ ≠ gb235 ∧ k_ ≠ gb236 ∧ k_ ≠ gb237 ∧ k_ ≠ gb249)) (okp := (fun k_ => ((P0_1_ k_ ∨ P1_1_ k_ ∨ P2_1_ k_) ∨ w.heap.size ≤ k_) ∧ some k_ ≠ (.slice Ao54 y242.length co54 : Value).ownBlock ∧ k_ ≠ gb235 ∧ k_ ≠ gb236 ∧ k_ ≠ gb237 ∧ k_ ≠ gb249)) ?hr ?hp (fun _ hk => hk) ((show ∀ k_, w63.heap.size ≤ k_ → (fun k_ => ((P0_1_ k_ ∨ P1_1_ k_ ∨ P2_1_ k_) ∨ w.heap.size ≤ k_) ∧ some k_ ≠ (.slice Ao54 y242.length co54 : Value).ownBlock ∧ k_ ≠ gb235 ∧ k_ ≠ gb236 ∧ k_ ≠ gb237 ∧ k_ ≠ gb249) k_ from fun k_ hk => ⟨(.inr (Nat.le_trans (below_size (gw_ HB)) hk)), Kd.fresh' (Kd.N_lt (Kd.nk HO244)) k_ hk, Kd.freshB (g := gb235) (bk BK235) k_ hk, Kd.freshB (g := gb236) (bk BK236) k_ hk, Kd.freshB (g := gb237) (bk BK237) k_ hk, Kd.freshB (g := gb249) (bk BK249) k_ hk⟩) _ (Nat.le_refl _)) (Below.refl _ _) (Nat.le_refl _) (by simp) ?_; (case hd => rfl); (case hg => rfl); (case hr => first | (go_simp; done) | (go_simp; rfl)); (case hp => exact (Reps.c2 (show Kd.FK k27 _ _ (⟨a1_0, l1_1⟩ : S27) [.int .i64 a1_0, .slice A1_1 l1_1.length c1_1] from (k27_mkF _ _ (⟨a1_0, l1_1⟩ : S27) (Kd.V_reads' (Kd.V_mono (ok' := (fun k_ => ((P0_1_ k_ ∨ P1_1_ k_ ∨ P2_1_ k_) ∨ w.heap.size ≤ k_) ∧ some k_ ≠ (.slice Ao54 y242.length co54 : Value).ownBlock ∧ k_ ≠ gb235 ∧ k_ ≠ gb236 ∧ k_ ≠ gb237 ∧ k_ ≠ gb249)) (HO_237001.out) (fun k_ hk => (by first | exact ⟨hk.1, ⟨hk.2.1, ⟨hk.2.2.1, ⟨hk.2.2.2.1, ⟨hk.2.2.2.2.1, hk.2.2.2.2.2⟩⟩⟩⟩⟩ | simp [hk])))).2.1 (Kd.V_F (Kd.V_mono (ok' := (fun k_ => ((P0_1_ k_ ∨ P1_1_ k_ ∨ P2_1_ k_) ∨ w.heap.size ≤ k_) ∧ some k_ ≠ (.slice Ao54 y242.length co54 : Value).ownBlock ∧ k_ ≠ gb235 ∧ k_ ≠ gb236 ∧ k_ ≠ gb237 ∧ k_ ≠ gb249)) (HO_237001.out) (fun k_ hk => (by first | exact ⟨hk.1, ⟨hk.2.1, ⟨hk.2.2.1, ⟨hk.2.2.2.1, ⟨hk.2.2.2.2.1, hk.2.2.2.2.2⟩⟩⟩⟩⟩ | simp [hk])))))) (Reps.c2 (show Kd.FK k27 _ _ (⟨a0_0, l0_1⟩ : S27) [.int .i64 a0_0, .slice A0_1 l0_1.length c0_1] from (k27_mkF _ _ (⟨a0_0, l0_1⟩ : S27) (Kd.V_reads' (Kd.V_mono (ok' := (fun k_ => ((P0_1_ k_ ∨ P1_1_ k_ ∨ P2_1_ k_) ∨ w.heap.size ≤ k_) ∧ some k_ ≠ (.slice Ao54 y242.length co54 : Value).ownBlock ∧ k_ ≠ gb235 ∧ k_ ≠ gb236 ∧ k_ ≠ gb237 ∧ k_ ≠ gb249)) (HO_236001.out) (fun k_ hk => (by first | exact ⟨hk.1, ⟨hk.2.1, ⟨hk.2.2.1, ⟨hk.2.2.2.1, ⟨hk.2.2.2.2.1, hk.2.2.2.2.2⟩⟩⟩⟩⟩ | simp [hk])))).2.1 (Kd.V_F (Kd.V_mono (ok' := (fun k_ => ((P0_1_ k_ ∨ P1_1_ k_ ∨ P2_1_ k_) ∨ w.heap.size ≤ k_) ∧ some k_ ≠ (.slice Ao54 y242.length co54 : Value).ownBlock ∧ k_ ≠ gb235 ∧ k_ ≠ gb236 ∧ k_ ≠ gb237 ∧ k_ ≠ gb249)) (HO_236001.out) (fun k_ hk => (by first | exact ⟨hk.1, ⟨hk.2.1, ⟨hk.2.2.1, ⟨hk.2.2.2.1, ⟨hk.2.2.2.2.1, hk.2.2.2.2.2⟩⟩⟩⟩⟩ | simp [hk])))))) (Reps.none _ _))))
    intro v251 w64 ho65 hb hg_ hnew_
    clear hg_ hnew_
    (first | rw [← Ny250.out] at ho65 | (simp only [Int.reduceToNat] at ho65; rw [← Ny250.out] at ho65))
    have n0_ := Aside0.mk (Kd.V_elder' (Kd.vk HO_236001) (Kd.N_base ho65) hb)
    have n1_ := Aside0.mk (Kd.V_elder' (Kd.vk HO_237001) (Kd.N_base ho65) hb)
    have n2_ := Aside0.mk (Kd.V_elder' (Kd.vk HO_238001) (Kd.N_base ho65) hb)
    have n3_ := Aside0.mk (Kd.N_elder' (Kd.nk HO244) (Kd.N_base ho65) hb)
    have n4_ := Aside0.mk (Kd.V_elder' (Kd.vk HO248) (Kd.N_base ho65) hb)
    have n5_ := Aside0.mk (Kd.N_lower ho65 (below_size (gw_ HB)))
    have n6_ := Aside0.mk (blk_below (g := gb235) (bk BK235) hb)
    have n7_ := Aside0.mk (blk_below (g := gb236) (bk BK236) hb)
    have n8_ := Aside0.mk (blk_below (g := gb237) (bk BK237) hb)
    have n9_ := Aside0.mk (blk_below (g := gb249) (bk BK249) hb)
    have n10_ := Aside0.mk (below_step (gw_ HB) hb)
    clear HO_236001
    clear HO_237001
    clear HO_238001
    clear HO244
    clear HO248
    clear BK235
    clear BK236
    clear BK237
    clear BK249
    clear HB
    have HO_236001 := n0_
    have HO_237001 := n1_
    have HO_238001 := n2_
    have HO244 := n3_
    have HO248 := n4_
    have HO252 := n5_
    have BK235 := n6_
    have BK236 := n7_
    have BK237 := n8_
    have BK249 := n9_
    have HB := n10_
    clear n0_ n1_ n2_ n3_ n4_ n5_ n6_ n7_ n8_ n9_ n10_
    clear hb ho65
    obtain ⟨Ao66, co66, eo66⟩ := Kd.N_slice HO252.out
    (first | subst eo66 | (injection eo66 with f1_ f2_ f3_; have f4_ := f1_.symm; have f5_ := f3_.symm; clear f1_ f2_ f3_; subst f4_; subst f5_))
    refine hK.out _ _ ⟨(blk_cell BK249.out 0).trans rfl, (blk_cell BK249.out 1).trans rfl, (blk_cell BK236.out 0).trans rfl, (blk_cell BK236.out 1).trans rfl, (blk_cell BK235.out 0).trans rfl, (blk_cell BK235.out 1).trans rfl⟩ (fun hHeld => ?_)
    clear hK K
    refine norm_ (a' := ?_) ?_ ?_
    rotate_left
    ·
     show Act.put _ (some 39) _ = _
     simp only [Act.put, List.setIfInBounds_toArray, List.set_cons_zero, List.set_cons_succ, i64_w, i32_w]
     rfl
    refine one_ (i := 4) (N := some 40) #[true, true, true, true, true, false, false] rfl rfl (by kernel_rfl) (by decide) (fun K hK => ?_)
    refine goes_ Try.func11 (by kernel_rfl) rfl #[.slice Ao66 y250.length co66] (by rfl) rfl rfl (by (try simp only [List.map_toArray, List.map_cons, List.map_nil]); first | done | rfl | (simp only [List.length_drop, List.length_take]; rfl)) ?_
    with_reducible refine (attr_MergeV.calls kj4 _ _ y250 t253 t254 _ ?side1 ?side2 A38.out).mono ?_
    (case side1 => repeat (first | exact (Kd.N_reads' HO252.out).2.2 | (with_reducible refine Kd.C_alloc ?_ _) | (with_reducible refine Kd.C_drewN ?_ _) | (with_reducible refine Kd.C_drew ?_)))
    (case side2 => exact (Kd.N_reads' HO252.out).2.1)
    rintro e w67 ⟨v255, rfl, ho0, hb⟩
    refine ⟨_, rfl, ?_⟩
    have n0_ := Aside0.mk (Kd.V_below (Kd.vk HO_236001) hb)
    have n1_ := Aside0.mk (Kd.V_below (Kd.vk HO_237001) hb)
    have n2_ := Aside0.mk (Kd.V_below (Kd.vk HO_238001) hb)
    have n3_ := Aside0.mk (Kd.N_below (Kd.nk HO244) hb)
    have n4_ := Aside0.mk (Kd.V_below (Kd.vk HO248) hb)
    have n5_ := Aside0.mk (Kd.N_below (Kd.nk HO252) hb)
    have n6_ := Aside0.mk (Kd.V_lower (Kd.V_mono (ok' := fun k_ => ((P0_1_ k_ ∨ P1_1_ k_ ∨ P2_1_ k_) ∨ w.heap.size ≤ k_) ∧ some k_ ≠ (.slice Ao54 y242.length co54 : Value).ownBlock ∧ some k_ ≠ (.slice Ao66 y250.length co66 : Value).ownBlock ∧ k_ ≠ gb235 ∧ k_ ≠ gb236 ∧ k_ ≠ gb237 ∧ k_ ≠ gb249) ho0 (fun k_ hk_ => ⟨(.inr (Nat.le_trans (below_size (gw_ HB)) hk_)), (Kd.fresh' (Kd.N_lt (Kd.nk HO244)) k_ hk_), (Kd.fresh' (Kd.N_lt (Kd.nk HO252)) k_ hk_), (Kd.freshB (g := gb235) (bk BK235) k_ hk_), (Kd.freshB (g := gb236) (bk BK236) k_ hk_), (Kd.freshB (g := gb237) (bk BK237) k_ hk_), (Kd.freshB (g := gb249) (bk BK249) k_ hk_)⟩)) (below_size (gw_ HB)))
    have n7_ := Aside0.mk (blk_below (g := gb235) (bk BK235) hb)
    have n8_ := Aside0.mk (blk_below (g := gb236) (bk BK236) hb)
    have n9_ := Aside0.mk (blk_below (g := gb237) (bk BK237) hb)
    have n10_ := Aside0.mk (blk_below (g := gb249) (bk BK249) hb)
    have n11_ := Aside0.mk (below_step (gw_ HB) hb)
    clear HO_236001
    clear HO_237001
    clear HO_238001
    clear HO244
    clear HO248
    clear HO252
    clear BK235
    clear BK236
    clear BK237
    clear BK249
    clear HB
    have HO_236001 := n0_
    have HO_237001 := n1_
    have HO_238001 := n2_
    have HO244 := n3_
    have HO248 := n4_
    have HO252 := n5_
    have HO256 := n6_
    have BK235 := n7_
    have BK236 := n8_
    have BK237 := n9_
    have BK249 := n10_
    have HB := n11_
    clear n0_ n1_ n2_ n3_ n4_ n5_ n6_ n7_ n8_ n9_ n10_ n11_
    (try clear hb)
    (try clear hb2)
    (try clear hk)
    (try clear hi)
    (try clear ho0)
    obtain ⟨Ao68, co68, eo68⟩ := Kd.V_slice HO256.out
    (first | subst eo68 | (injection eo68 with f1_ f2_ f3_; have f4_ := f1_.symm; have f5_ := f3_.symm; clear f1_ f2_ f3_; subst f4_; subst f5_))
    refine hK.out _ _ ⟨(blk_cell BK249.out 0).trans rfl, (blk_cell BK249.out 1).trans rfl, (blk_cell BK236.out 0).trans rfl, (blk_cell BK236.out 1).trans rfl, (blk_cell BK235.out 0).trans rfl, (blk_cell BK235.out 1).trans rfl⟩ (fun hHeld => ?_)
    clear hK K
    refine norm_ (a' := ?_) ?_ ?_
    rotate_left
    ·
     show Act.put _ (some 40) _ = _
     simp only [Act.put, List.setIfInBounds_toArray, List.set_cons_zero, List.set_cons_succ, i64_w, i32_w]
     rfl
    refine one_ (i := 5) (N := some 41) #[true, true, true, true, true, true, false] rfl rfl (by kernel_rfl) (by decide) (fun K hK => ?_)
    refine goes_ Try.func16 (by kernel_rfl) rfl #[.agg #[.int .i64 t245, .slice Ao61 t246.length co61], .agg #[.int .i64 t253, .slice Ao68 t254.length co68]] (by rfl) rfl rfl (by (try simp only [List.map_toArray, List.map_cons, List.map_nil]); first | done | rfl | (simp only [List.length_drop, List.length_take]; rfl)) ?_
    with_reducible refine (attr_Same.calls t245 _ _ t246 t253 _ _ t254 t257 _ ?side1 ?side2 ?side3 ?side4 A39.out).mono ?_
    (case side1 => repeat (first | exact (Kd.V_reads' HO248.out).2.2 | (with_reducible refine Kd.C_alloc ?_ _) | (with_reducible refine Kd.C_drewN ?_ _) | (with_reducible refine Kd.C_drew ?_)))
    (case side2 => exact (Kd.V_reads' HO248.out).2.1)
    (case side3 => repeat (first | exact (Kd.V_reads' HO256.out).2.2 | (with_reducible refine Kd.C_alloc ?_ _) | (with_reducible refine Kd.C_drewN ?_ _) | (with_reducible refine Kd.C_drew ?_)))
    (case side4 => exact (Kd.V_reads' HO256.out).2.1)
    rintro e w69 ⟨rfl, hb⟩
    refine ⟨_, rfl, ?_⟩
    have n0_ := Aside0.mk (Kd.V_below (Kd.vk HO_236001) hb)
    have n1_ := Aside0.mk (Kd.V_below (Kd.vk HO_237001) hb)
    have n2_ := Aside0.mk (Kd.V_below (Kd.vk HO_238001) hb)
    have n3_ := Aside0.mk (Kd.N_below (Kd.nk HO244) hb)
    have n4_ := Aside0.mk (Kd.V_below (Kd.vk HO248) hb)
    have n5_ := Aside0.mk (Kd.N_below (Kd.nk HO252) hb)
    have n6_ := Aside0.mk (Kd.V_below (Kd.vk HO256) hb)
    have n7_ := Aside0.mk (blk_below (g := gb235) (bk BK235) hb)
    have n8_ := Aside0.mk (blk_below (g := gb236) (bk BK236) hb)
    have n9_ := Aside0.mk (blk_below (g := gb237) (bk BK237) hb)
    have n10_ := Aside0.mk (blk_below (g := gb249) (bk BK249) hb)
    have n11_ := Aside0.mk (below_step (gw_ HB) hb)
    clear HO_236001
    clear HO_237001
    clear HO_238001
    clear HO244
    clear HO248
    clear HO252
    clear HO256
    clear BK235
    clear BK236
    clear BK237
    clear BK249
    clear HB
    have HO_236001 := n0_
    have HO_237001 := n1_
    have HO_238001 := n2_
    have HO244 := n3_
    have HO248 := n4_
    have HO252 := n5_
    have HO256 := n6_
    have BK235 := n7_
    have BK236 := n8_
    have BK237 := n9_
    have BK249 := n10_
    have HB := n11_
    clear n0_ n1_ n2_ n3_ n4_ n5_ n6_ n7_ n8_ n9_ n10_ n11_
    (try clear hb)
    (try clear hb2)
    (try clear hk)
    (try clear hi)
    refine hK.out _ _ ⟨(blk_cell BK249.out 0).trans rfl, (blk_cell BK249.out 1).trans rfl, (blk_cell BK236.out 0).trans rfl, (blk_cell BK236.out 1).trans rfl, (blk_cell BK235.out 0).trans rfl, (blk_cell BK235.out 1).trans rfl⟩ (fun hHeld => ?_)
    clear hK K
    refine norm_ (a' := ?_) ?_ ?_
    rotate_left
    ·
     show Act.put _ (some 41) _ = _
     simp only [Act.put, List.setIfInBounds_toArray, List.set_cons_zero, List.set_cons_succ, i64_w, i32_w]
     rfl
    refine pure_ (i := 6) (N := some 9) (v := ?_) (a' := ?_) #[true, true, true, true, true, true, true] rfl rfl (by kernel_rfl) (fun _ _ _ h => h) (Or.inl ⟨by rfl, ?_⟩) ?_ ?_
    rotate_left
    ·
     intro w'
     go_simp
     with_reducible rfl
    rotate_left
    ·
     simp only [Act.put, List.setIfInBounds_toArray, List.set_cons_zero, List.set_cons_succ, i64_w, i32_w]
     rfl
    refine done_ (by kernel_rfl) ?_
    try go_wp2
    have n0_ := Aside0.mk (Kd.V_drew HO_236001.out)
    have n1_ := Aside0.mk (Kd.V_drew HO_237001.out)
    have n2_ := Aside0.mk (Kd.V_drew HO_238001.out)
    have n3_ := Aside0.mk (Kd.N_drew HO244.out)
    have n4_ := Aside0.mk (Kd.V_drew HO248.out)
    have n5_ := Aside0.mk (Kd.N_drew HO252.out)
    have n6_ := Aside0.mk (Kd.V_drew HO256.out)
    have n7_ := Aside0.mk (blk_drew BK235.out)
    have n8_ := Aside0.mk (blk_drew BK236.out)
    have n9_ := Aside0.mk (blk_drew BK237.out)
    have n10_ := Aside0.mk (blk_drew BK249.out)
    have n11_ := Aside0.mk (below_drew1 HB.out)
    clear HO_236001
    clear HO_237001
    clear HO_238001
    clear HO244
    clear HO248
    clear HO252
    clear HO256
    clear BK235
    clear BK236
    clear BK237
    clear BK249
    clear HB
    have HO_236001 := n0_
    have HO_237001 := n1_
    have HO_238001 := n2_
    have HO244 := n3_
    have HO248 := n4_
    have HO252 := n5_
    have HO256 := n6_
    have BK235 := n7_
    have BK236 := n8_
    have BK237 := n9_
    have BK249 := n10_
    have HB := n11_
    clear n0_ n1_ n2_ n3_ n4_ n5_ n6_ n7_ n8_ n9_ n10_ n11_
    refine start_ (n := 9) (S := fun w' => w'.cell? ⟨gb249, 0, none⟩ = some (.int .i64 t245) ∧ w'.cell? ⟨gb249, 1, none⟩ = some (.slice Ao61 t246.length co61) ∧ w'.cell? ⟨gb235, 0, none⟩ = some (.int .i64 a0_0) ∧ w'.cell? ⟨gb235, 1, none⟩ = some (.slice A0_1 l0_1.length c0_1) ∧ w'.cell? ⟨gb236, 0, none⟩ = some (.int .i64 a1_0) ∧ w'.cell? ⟨gb236, 1, none⟩ = some (.slice A1_1 l1_1.length c1_1)) (ds := []) q7_1 (by kernel_rfl) rfl rfl ⟨(blk_cell BK249.out 0).trans rfl, (blk_cell BK249.out 1).trans rfl, (blk_cell BK235.out 0).trans rfl, (blk_cell BK235.out 1).trans rfl, (blk_cell BK236.out 0).trans rfl, (blk_cell BK236.out 1).trans rfl⟩ (fun hHeld => ?_); refine with_tabW colloquylaw06_AttrJoins.tab6 colloquylaw06_AttrJoins.bits6 (fun HT_ HW_ => ?_)
    generalize w69.drew = w70 at HO_236001 HO_237001 HO_238001 HO244 HO248 HO252 HO256 BK235 BK236 BK237 BK249 HB hHeld ⊢
    refine take_ (i := 0) (N := some 42) (v := ?_) (a' := ?_) q7_2 rfl rfl (take_ofW HT_.out HW_.out (by kernel_rfl)) (fun _ _ _ h => h) (Or.inl ⟨by rfl, ?_⟩) hHeld ?_ ?_
    rotate_left
    ·
     rintro w' ⟨s0, s1, s2, s3, s4, s5⟩
     go_simp
     with_reducible rfl
    rotate_left
    ·
     simp only [Act.put, List.setIfInBounds_toArray, List.set_cons_zero, List.set_cons_succ, i64_w, i32_w]
     rfl
    refine take_ (i := 1) (N := some 43) (v := ?_) (a' := ?_) q7_3 rfl rfl (take_ofW HT_.out HW_.out (by kernel_rfl)) (fun _ _ _ h => h) (Or.inl ⟨by rfl, ?_⟩) hHeld ?_ ?_
    rotate_left
    ·
     rintro w' ⟨s0, s1, s2, s3, s4, s5⟩
     go_simp
     with_reducible rfl
    rotate_left
    ·
     simp only [Act.put, List.setIfInBounds_toArray, List.set_cons_zero, List.set_cons_succ, i64_w, i32_w]
     rfl
    refine take_ (i := 2) (N := some 44) (v := ?_) (a' := ?_) q7_4 rfl rfl (take_ofW HT_.out HW_.out (by kernel_rfl)) (fun _ _ _ h => h) (Or.inl ⟨by rfl, ?_⟩) hHeld ?_ ?_
    rotate_left
    ·
     rintro w' ⟨s0, s1, s2, s3, s4, s5⟩
     go_simp
     with_reducible rfl
    rotate_left
    ·
     simp only [Act.put, List.setIfInBounds_toArray, List.set_cons_zero, List.set_cons_succ, i64_w, i32_w]
     rfl
    refine take_ (i := 3) (N := some 45) (v := ?_) (a' := ?_) q7_5 rfl rfl (take_ofW HT_.out HW_.out (by kernel_rfl)) (fun _ _ _ h => h) (Or.inl ⟨by rfl, ?_⟩) hHeld ?_ ?_
    rotate_left
    ·
     rintro w' ⟨s0, s1, s2, s3, s4, s5⟩
     go_simp
     with_reducible rfl
    rotate_left
    ·
     simp only [Act.put, List.setIfInBounds_toArray, List.set_cons_zero, List.set_cons_succ, i64_w, i32_w]
     rfl
    refine take_ (i := 4) (N := some 46) (v := ?_) (a' := ?_) q7_6 rfl rfl (take_ofW HT_.out HW_.out (by kernel_rfl)) (fun _ _ _ h => h) (Or.inl ⟨by rfl, ?_⟩) hHeld ?_ ?_
    rotate_left
    ·
     rintro w' ⟨s0, s1, s2, s3, s4, s5⟩
     go_simp
     with_reducible rfl
    rotate_left
    ·
     simp only [Act.put, List.setIfInBounds_toArray, List.set_cons_zero, List.set_cons_succ, i64_w, i32_w]
     rfl
    refine one_ (i := 5) (N := some 47) q7_7 rfl rfl (one_of HT_.out (by kernel_rfl)) (by decide) (fun K hK => ?_)
    refine Kd.N_lit_step k27 _ 27 ?hg (N' := 47) ?hd (xs := ([(⟨a0_0, l0_1⟩ : S27), (⟨a1_0, l1_1⟩ : S27), (⟨a0_0, l0_1⟩ : S27), (⟨t245, t246⟩ : S27)] : List (S27))) (inner := [.int .i64 a0_0, .slice A0_1 l0_1.length c0_1, .int .i64 a1_0, .slice A1_1 l1_1.length c1_1, .int .i64 a0_0, .slice A0_1 l0_1.length c0_1, .int .i64 t245, .slice Ao61 t246.length co61]) (ok := (fun k_ => ((P0_1_ k_ ∨ P1_1_ k_ ∨ P2_1_ k_) ∨ w.heap.size ≤ k_) ∧ some k_ ≠ (.slice Ao54 y242.length co54 : Value).ownBlock ∧ some k_ ≠ (.slice Ao66 y250.length co66 : Value).ownBlock ∧ k_ ≠ gb235 ∧ k_ ≠ gb236 ∧ k_ ≠ gb237 ∧ k_ ≠ gb249)) (okp := (fun k_ => ((P0_1_ k_ ∨ P1_1_ k_ ∨ P2_1_ k_) ∨ w.heap.size ≤ k_) ∧ some k_ ≠ (.slice Ao54 y242.length co54 : Value).ownBlock ∧ some k_ ≠ (.slice Ao66 y250.length co66 : Value).ownBlock ∧ k_ ≠ gb235 ∧ k_ ≠ gb236 ∧ k_ ≠ gb237 ∧ k_ ≠ gb249)) ?hr ?hp (fun _ hk => hk) ((show ∀ k_, w70.heap.size ≤ k_ → (fun k_ => ((P0_1_ k_ ∨ P1_1_ k_ ∨ P2_1_ k_) ∨ w.heap.size ≤ k_) ∧ some k_ ≠ (.slice Ao54 y242.length co54 : Value).ownBlock ∧ some k_ ≠ (.slice Ao66 y250.length co66 : Value).ownBlock ∧ k_ ≠ gb235 ∧ k_ ≠ gb236 ∧ k_ ≠ gb237 ∧ k_ ≠ gb249) k_ from fun k_ hk => ⟨(.inr (Nat.le_trans (below_size (gw_ HB)) hk)), Kd.fresh' (Kd.N_lt (Kd.nk HO244)) k_ hk, Kd.fresh' (Kd.N_lt (Kd.nk HO252)) k_ hk, Kd.freshB (g := gb235) (bk BK235) k_ hk, Kd.freshB (g := gb236) (bk BK236) k_ hk, Kd.freshB (g := gb237) (bk BK237) k_ hk, Kd.freshB (g := gb249) (bk BK249) k_ hk⟩) _ (Nat.le_refl _)) (Below.refl _ _) (Nat.le_refl _) (by simp) ?_; (case hd => rfl); (case hg => rfl); (case hr => first | (go_simp; done) | (go_simp; rfl)); (case hp => exact (Reps.c2 (show Kd.FK k27 _ _ (⟨a0_0, l0_1⟩ : S27) [.int .i64 a0_0, .slice A0_1 l0_1.length c0_1] from (k27_mkF _ _ (⟨a0_0, l0_1⟩ : S27) (Kd.V_reads' (Kd.V_mono (ok' := (fun k_ => ((P0_1_ k_ ∨ P1_1_ k_ ∨ P2_1_ k_) ∨ w.heap.size ≤ k_) ∧ some k_ ≠ (.slice Ao54 y242.length co54 : Value).ownBlock ∧ some k_ ≠ (.slice Ao66 y250.length co66 : Value).ownBlock ∧ k_ ≠ gb235 ∧ k_ ≠ gb236 ∧ k_ ≠ gb237 ∧ k_ ≠ gb249)) (HO_236001.out) (fun k_ hk => (by first | exact ⟨hk.1.1, ⟨hk.1.2.1, ⟨hk.2, ⟨hk.1.2.2.1, ⟨hk.1.2.2.2.1, ⟨hk.1.2.2.2.2.1, hk.1.2.2.2.2.2⟩⟩⟩⟩⟩⟩ | simp [hk])))).2.1 (Kd.V_F (Kd.V_mono (ok' := (fun k_ => ((P0_1_ k_ ∨ P1_1_ k_ ∨ P2_1_ k_) ∨ w.heap.size ≤ k_) ∧ some k_ ≠ (.slice Ao54 y242.length co54 : Value).ownBlock ∧ some k_ ≠ (.slice Ao66 y250.length co66 : Value).ownBlock ∧ k_ ≠ gb235 ∧ k_ ≠ gb236 ∧ k_ ≠ gb237 ∧ k_ ≠ gb249)) (HO_236001.out) (fun k_ hk => (by first | exact ⟨hk.1.1, ⟨hk.1.2.1, ⟨hk.2, ⟨hk.1.2.2.1, ⟨hk.1.2.2.2.1, ⟨hk.1.2.2.2.2.1, hk.1.2.2.2.2.2⟩⟩⟩⟩⟩⟩ | simp [hk])))))) (Reps.c2 (show Kd.FK k27 _ _ (⟨a1_0, l1_1⟩ : S27) [.int .i64 a1_0, .slice A1_1 l1_1.length c1_1] from (k27_mkF _ _ (⟨a1_0, l1_1⟩ : S27) (Kd.V_reads' (Kd.V_mono (ok' := (fun k_ => ((P0_1_ k_ ∨ P1_1_ k_ ∨ P2_1_ k_) ∨ w.heap.size ≤ k_) ∧ some k_ ≠ (.slice Ao54 y242.length co54 : Value).ownBlock ∧ some k_ ≠ (.slice Ao66 y250.length co66 : Value).ownBlock ∧ k_ ≠ gb235 ∧ k_ ≠ gb236 ∧ k_ ≠ gb237 ∧ k_ ≠ gb249)) (HO_237001.out) (fun k_ hk => (by first | exact ⟨hk.1.1, ⟨hk.1.2.1, ⟨hk.2, ⟨hk.1.2.2.1, ⟨hk.1.2.2.2.1, ⟨hk.1.2.2.2.2.1, hk.1.2.2.2.2.2⟩⟩⟩⟩⟩⟩ | simp [hk])))).2.1 (Kd.V_F (Kd.V_mono (ok' := (fun k_ => ((P0_1_ k_ ∨ P1_1_ k_ ∨ P2_1_ k_) ∨ w.heap.size ≤ k_) ∧ some k_ ≠ (.slice Ao54 y242.length co54 : Value).ownBlock ∧ some k_ ≠ (.slice Ao66 y250.length co66 : Value).ownBlock ∧ k_ ≠ gb235 ∧ k_ ≠ gb236 ∧ k_ ≠ gb237 ∧ k_ ≠ gb249)) (HO_237001.out) (fun k_ hk => (by first | exact ⟨hk.1.1, ⟨hk.1.2.1, ⟨hk.2, ⟨hk.1.2.2.1, ⟨hk.1.2.2.2.1, ⟨hk.1.2.2.2.2.1, hk.1.2.2.2.2.2⟩⟩⟩⟩⟩⟩ | simp [hk])))))) (Reps.c2 (show Kd.FK k27 _ _ (⟨a0_0, l0_1⟩ : S27) [.int .i64 a0_0, .slice A0_1 l0_1.length c0_1] from (k27_mkF _ _ (⟨a0_0, l0_1⟩ : S27) (Kd.V_reads' (Kd.V_mono (ok' := (fun k_ => ((P0_1_ k_ ∨ P1_1_ k_ ∨ P2_1_ k_) ∨ w.heap.size ≤ k_) ∧ some k_ ≠ (.slice Ao54 y242.length co54 : Value).ownBlock ∧ some k_ ≠ (.slice Ao66 y250.length co66 : Value).ownBlock ∧ k_ ≠ gb235 ∧ k_ ≠ gb236 ∧ k_ ≠ gb237 ∧ k_ ≠ gb249)) (HO_236001.out) (fun k_ hk => (by first | exact ⟨hk.1.1, ⟨hk.1.2.1, ⟨hk.2, ⟨hk.1.2.2.1, ⟨hk.1.2.2.2.1, ⟨hk.1.2.2.2.2.1, hk.1.2.2.2.2.2⟩⟩⟩⟩⟩⟩ | simp [hk])))).2.1 (Kd.V_F (Kd.V_mono (ok' := (fun k_ => ((P0_1_ k_ ∨ P1_1_ k_ ∨ P2_1_ k_) ∨ w.heap.size ≤ k_) ∧ some k_ ≠ (.slice Ao54 y242.length co54 : Value).ownBlock ∧ some k_ ≠ (.slice Ao66 y250.length co66 : Value).ownBlock ∧ k_ ≠ gb235 ∧ k_ ≠ gb236 ∧ k_ ≠ gb237 ∧ k_ ≠ gb249)) (HO_236001.out) (fun k_ hk => (by first | exact ⟨hk.1.1, ⟨hk.1.2.1, ⟨hk.2, ⟨hk.1.2.2.1, ⟨hk.1.2.2.2.1, ⟨hk.1.2.2.2.2.1, hk.1.2.2.2.2.2⟩⟩⟩⟩⟩⟩ | simp [hk])))))) (Reps.c2 (show Kd.FK k27 _ _ (⟨t245, t246⟩ : S27) [.int .i64 t245, .slice Ao61 t246.length co61] from (k27_mkF _ _ (⟨t245, t246⟩ : S27) (Kd.V_reads' (Kd.V_mono (ok' := (fun k_ => ((P0_1_ k_ ∨ P1_1_ k_ ∨ P2_1_ k_) ∨ w.heap.size ≤ k_) ∧ some k_ ≠ (.slice Ao54 y242.length co54 : Value).ownBlock ∧ some k_ ≠ (.slice Ao66 y250.length co66 : Value).ownBlock ∧ k_ ≠ gb235 ∧ k_ ≠ gb236 ∧ k_ ≠ gb237 ∧ k_ ≠ gb249)) (HO248.out) (fun k_ hk => (by first | exact ⟨hk.1.1, ⟨hk.1.2.1, ⟨hk.2, ⟨hk.1.2.2.1, ⟨hk.1.2.2.2.1, ⟨hk.1.2.2.2.2.1, hk.1.2.2.2.2.2⟩⟩⟩⟩⟩⟩ | simp [hk])))).2.1 (Kd.V_F (Kd.V_mono (ok' := (fun k_ => ((P0_1_ k_ ∨ P1_1_ k_ ∨ P2_1_ k_) ∨ w.heap.size ≤ k_) ∧ some k_ ≠ (.slice Ao54 y242.length co54 : Value).ownBlock ∧ some k_ ≠ (.slice Ao66 y250.length co66 : Value).ownBlock ∧ k_ ≠ gb235 ∧ k_ ≠ gb236 ∧ k_ ≠ gb237 ∧ k_ ≠ gb249)) (HO248.out) (fun k_ hk => (by first | exact ⟨hk.1.1, ⟨hk.1.2.1, ⟨hk.2, ⟨hk.1.2.2.1, ⟨hk.1.2.2.2.1, ⟨hk.1.2.2.2.2.1, hk.1.2.2.2.2.2⟩⟩⟩⟩⟩⟩ | simp [hk])))))) (Reps.none _ _))))))
    intro v259 w71 ho72 hb hg_ hnew_
    clear hg_ hnew_
    (first | rw [← Ny258.out] at ho72 | (simp only [Int.reduceToNat] at ho72; rw [← Ny258.out] at ho72))
    have n0_ := Aside0.mk (Kd.V_elder' (Kd.vk HO_236001) (Kd.N_base ho72) hb)
    have n1_ := Aside0.mk (Kd.V_elder' (Kd.vk HO_237001) (Kd.N_base ho72) hb)
    have n2_ := Aside0.mk (Kd.V_elder' (Kd.vk HO_238001) (Kd.N_base ho72) hb)
    have n3_ := Aside0.mk (Kd.N_elder' (Kd.nk HO244) (Kd.N_base ho72) hb)
    have n4_ := Aside0.mk (Kd.V_elder' (Kd.vk HO248) (Kd.N_base ho72) hb)
    have n5_ := Aside0.mk (Kd.N_elder' (Kd.nk HO252) (Kd.N_base ho72) hb)
    have n6_ := Aside0.mk (Kd.V_elder' (Kd.vk HO256) (Kd.N_base ho72) hb)
    have n7_ := Aside0.mk (Kd.N_lower ho72 (below_size (gw_ HB)))
    have n8_ := Aside0.mk (blk_below (g := gb235) (bk BK235) hb)
    have n9_ := Aside0.mk (blk_below (g := gb236) (bk BK236) hb)
    have n10_ := Aside0.mk (blk_below (g := gb237) (bk BK237) hb)
    have n11_ := Aside0.mk (blk_below (g := gb249) (bk BK249) hb)
    have n12_ := Aside0.mk (below_step (gw_ HB) hb)
    clear HO_236001
    clear HO_237001
    clear HO_238001
    clear HO244
    clear HO248
    clear HO252
    clear HO256
    clear BK235
    clear BK236
    clear BK237
    clear BK249
    clear HB
    have HO_236001 := n0_
    have HO_237001 := n1_
    have HO_238001 := n2_
    have HO244 := n3_
    have HO248 := n4_
    have HO252 := n5_
    have HO256 := n6_
    have HO260 := n7_
    have BK235 := n8_
    have BK236 := n9_
    have BK237 := n10_
    have BK249 := n11_
    have HB := n12_
    clear n0_ n1_ n2_ n3_ n4_ n5_ n6_ n7_ n8_ n9_ n10_ n11_ n12_
    clear hb ho72
    obtain ⟨Ao73, co73, eo73⟩ := Kd.N_slice HO260.out
    (first | subst eo73 | (injection eo73 with f1_ f2_ f3_; have f4_ := f1_.symm; have f5_ := f3_.symm; clear f1_ f2_ f3_; subst f4_; subst f5_))
    refine hK.out _ _ ⟨(blk_cell BK249.out 0).trans rfl, (blk_cell BK249.out 1).trans rfl, (blk_cell BK235.out 0).trans rfl, (blk_cell BK235.out 1).trans rfl, (blk_cell BK236.out 0).trans rfl, (blk_cell BK236.out 1).trans rfl⟩ (fun hHeld => ?_)
    clear hK K
    refine norm_ (a' := ?_) ?_ ?_
    rotate_left
    ·
     show Act.put _ (some 47) _ = _
     simp only [Act.put, List.setIfInBounds_toArray, List.set_cons_zero, List.set_cons_succ, i64_w, i32_w]
     rfl
    refine one_ (i := 6) (N := some 48) q7_8 rfl rfl (one_of HT_.out (by kernel_rfl)) (by decide) (fun K hK => ?_)
    refine goes_ Try.func11 (by kernel_rfl) rfl #[.slice Ao73 y258.length co73] (by rfl) rfl rfl (by (try simp only [List.map_toArray, List.map_cons, List.map_nil]); first | done | rfl | (simp only [List.length_drop, List.length_take]; rfl)) ?_
    with_reducible refine (attr_MergeV.calls kj4 _ _ y258 t261 t262 _ ?side1 ?side2 A40.out).mono ?_
    (case side1 => repeat (first | exact (Kd.N_reads' HO260.out).2.2 | (with_reducible refine Kd.C_alloc ?_ _) | (with_reducible refine Kd.C_drewN ?_ _) | (with_reducible refine Kd.C_drew ?_)))
    (case side2 => exact (Kd.N_reads' HO260.out).2.1)
    rintro e w74 ⟨v263, rfl, ho0, hb⟩
    refine ⟨_, rfl, ?_⟩
    have n0_ := Aside0.mk (Kd.V_below (Kd.vk HO_236001) hb)
    have n1_ := Aside0.mk (Kd.V_below (Kd.vk HO_237001) hb)
    have n2_ := Aside0.mk (Kd.V_below (Kd.vk HO_238001) hb)
    have n3_ := Aside0.mk (Kd.N_below (Kd.nk HO244) hb)
    have n4_ := Aside0.mk (Kd.V_below (Kd.vk HO248) hb)
    have n5_ := Aside0.mk (Kd.N_below (Kd.nk HO252) hb)
    have n6_ := Aside0.mk (Kd.V_below (Kd.vk HO256) hb)
    have n7_ := Aside0.mk (Kd.N_below (Kd.nk HO260) hb)
    have n8_ := Aside0.mk (Kd.V_lower (Kd.V_mono (ok' := fun k_ => ((P0_1_ k_ ∨ P1_1_ k_ ∨ P2_1_ k_) ∨ w.heap.size ≤ k_) ∧ some k_ ≠ (.slice Ao54 y242.length co54 : Value).ownBlock ∧ some k_ ≠ (.slice Ao66 y250.length co66 : Value).ownBlock ∧ some k_ ≠ (.slice Ao73 y258.length co73 : Value).ownBlock ∧ k_ ≠ gb235 ∧ k_ ≠ gb236 ∧ k_ ≠ gb237 ∧ k_ ≠ gb249) ho0 (fun k_ hk_ => ⟨(.inr (Nat.le_trans (below_size (gw_ HB)) hk_)), (Kd.fresh' (Kd.N_lt (Kd.nk HO244)) k_ hk_), (Kd.fresh' (Kd.N_lt (Kd.nk HO252)) k_ hk_), (Kd.fresh' (Kd.N_lt (Kd.nk HO260)) k_ hk_), (Kd.freshB (g := gb235) (bk BK235) k_ hk_), (Kd.freshB (g := gb236) (bk BK236) k_ hk_), (Kd.freshB (g := gb237) (bk BK237) k_ hk_), (Kd.freshB (g := gb249) (bk BK249) k_ hk_)⟩)) (below_size (gw_ HB)))
    have n9_ := Aside0.mk (blk_below (g := gb235) (bk BK235) hb)
    have n10_ := Aside0.mk (blk_below (g := gb236) (bk BK236) hb)
    have n11_ := Aside0.mk (blk_below (g := gb237) (bk BK237) hb)
    have n12_ := Aside0.mk (blk_below (g := gb249) (bk BK249) hb)
    have n13_ := Aside0.mk (below_step (gw_ HB) hb)
    clear HO_236001
    clear HO_237001
    clear HO_238001
    clear HO244
    clear HO248
    clear HO252
    clear HO256
    clear HO260
    clear BK235
    clear BK236
    clear BK237
    clear BK249
    clear HB
    have HO_236001 := n0_
    have HO_237001 := n1_
    have HO_238001 := n2_
    have HO244 := n3_
    have HO248 := n4_
    have HO252 := n5_
    have HO256 := n6_
    have HO260 := n7_
    have HO264 := n8_
    have BK235 := n9_
    have BK236 := n10_
    have BK237 := n11_
    have BK249 := n12_
    have HB := n13_
    clear n0_ n1_ n2_ n3_ n4_ n5_ n6_ n7_ n8_ n9_ n10_ n11_ n12_ n13_
    (try clear hb)
    (try clear hb2)
    (try clear hk)
    (try clear hi)
    (try clear ho0)
    obtain ⟨Ao75, co75, eo75⟩ := Kd.V_slice HO264.out
    (first | subst eo75 | (injection eo75 with f1_ f2_ f3_; have f4_ := f1_.symm; have f5_ := f3_.symm; clear f1_ f2_ f3_; subst f4_; subst f5_))
    refine hK.out _ _ ⟨(blk_cell BK249.out 0).trans rfl, (blk_cell BK249.out 1).trans rfl, (blk_cell BK235.out 0).trans rfl, (blk_cell BK235.out 1).trans rfl, (blk_cell BK236.out 0).trans rfl, (blk_cell BK236.out 1).trans rfl⟩ (fun hHeld => ?_)
    clear hK K
    refine norm_ (a' := ?_) ?_ ?_
    rotate_left
    ·
     show Act.put _ (some 48) _ = _
     simp only [Act.put, List.setIfInBounds_toArray, List.set_cons_zero, List.set_cons_succ, i64_w, i32_w]
     rfl
    refine one_ (i := 7) (N := some 49) q7_9 rfl rfl (one_of HT_.out (by kernel_rfl)) (by decide) (fun K hK => ?_)
    refine goes_ Try.func16 (by kernel_rfl) rfl #[.agg #[.int .i64 t245, .slice Ao61 t246.length co61], .agg #[.int .i64 t261, .slice Ao75 t262.length co75]] (by rfl) rfl rfl (by (try simp only [List.map_toArray, List.map_cons, List.map_nil]); first | done | rfl | (simp only [List.length_drop, List.length_take]; rfl)) ?_
    with_reducible refine (attr_Same.calls t245 _ _ t246 t261 _ _ t262 t265 _ ?side1 ?side2 ?side3 ?side4 A41.out).mono ?_
    (case side1 => repeat (first | exact (Kd.V_reads' HO248.out).2.2 | (with_reducible refine Kd.C_alloc ?_ _) | (with_reducible refine Kd.C_drewN ?_ _) | (with_reducible refine Kd.C_drew ?_)))
    (case side2 => exact (Kd.V_reads' HO248.out).2.1)
    (case side3 => repeat (first | exact (Kd.V_reads' HO264.out).2.2 | (with_reducible refine Kd.C_alloc ?_ _) | (with_reducible refine Kd.C_drewN ?_ _) | (with_reducible refine Kd.C_drew ?_)))
    (case side4 => exact (Kd.V_reads' HO264.out).2.1)
    rintro e w76 ⟨rfl, hb⟩
    refine ⟨_, rfl, ?_⟩
    have n0_ := Aside0.mk (Kd.V_below (Kd.vk HO_236001) hb)
    have n1_ := Aside0.mk (Kd.V_below (Kd.vk HO_237001) hb)
    have n2_ := Aside0.mk (Kd.V_below (Kd.vk HO_238001) hb)
    have n3_ := Aside0.mk (Kd.N_below (Kd.nk HO244) hb)
    have n4_ := Aside0.mk (Kd.V_below (Kd.vk HO248) hb)
    have n5_ := Aside0.mk (Kd.N_below (Kd.nk HO252) hb)
    have n6_ := Aside0.mk (Kd.V_below (Kd.vk HO256) hb)
    have n7_ := Aside0.mk (Kd.N_below (Kd.nk HO260) hb)
    have n8_ := Aside0.mk (Kd.V_below (Kd.vk HO264) hb)
    have n9_ := Aside0.mk (blk_below (g := gb235) (bk BK235) hb)
    have n10_ := Aside0.mk (blk_below (g := gb236) (bk BK236) hb)
    have n11_ := Aside0.mk (blk_below (g := gb237) (bk BK237) hb)
    have n12_ := Aside0.mk (blk_below (g := gb249) (bk BK249) hb)
    have n13_ := Aside0.mk (below_step (gw_ HB) hb)
    clear HO_236001
    clear HO_237001
    clear HO_238001
    clear HO244
    clear HO248
    clear HO252
    clear HO256
    clear HO260
    clear HO264
    clear BK235
    clear BK236
    clear BK237
    clear BK249
    clear HB
    have HO_236001 := n0_
    have HO_237001 := n1_
    have HO_238001 := n2_
    have HO244 := n3_
    have HO248 := n4_
    have HO252 := n5_
    have HO256 := n6_
    have HO260 := n7_
    have HO264 := n8_
    have BK235 := n9_
    have BK236 := n10_
    have BK237 := n11_
    have BK249 := n12_
    have HB := n13_
    clear n0_ n1_ n2_ n3_ n4_ n5_ n6_ n7_ n8_ n9_ n10_ n11_ n12_ n13_
    (try clear hb)
    (try clear hb2)
    (try clear hk)
    (try clear hi)
    refine hK.out _ _ ⟨(blk_cell BK249.out 0).trans rfl, (blk_cell BK249.out 1).trans rfl, (blk_cell BK235.out 0).trans rfl, (blk_cell BK235.out 1).trans rfl, (blk_cell BK236.out 0).trans rfl, (blk_cell BK236.out 1).trans rfl⟩ (fun hHeld => ?_)
    clear hK K
    refine norm_ (a' := ?_) ?_ ?_
    rotate_left
    ·
     show Act.put _ (some 49) _ = _
     simp only [Act.put, List.setIfInBounds_toArray, List.set_cons_zero, List.set_cons_succ, i64_w, i32_w]
     rfl
    refine pure_ (i := 8) (N := some 10) (v := ?_) (a' := ?_) q7_10 rfl rfl (any_of HT_.out (by kernel_rfl)) (fun _ _ _ h => h) (Or.inl ⟨by rfl, ?_⟩) ?_ ?_
    rotate_left
    ·
     intro w'
     go_simp
     with_reducible rfl
    rotate_left
    ·
     simp only [Act.put, List.setIfInBounds_toArray, List.set_cons_zero, List.set_cons_succ, i64_w, i32_w]
     rfl
    refine done_ (done_of HT_.out (by kernel_rfl)) ?_
    try go_wp2
    have n0_ := Aside0.mk (Kd.V_drew HO_236001.out)
    have n1_ := Aside0.mk (Kd.V_drew HO_237001.out)
    have n2_ := Aside0.mk (Kd.V_drew HO_238001.out)
    have n3_ := Aside0.mk (Kd.N_drew HO244.out)
    have n4_ := Aside0.mk (Kd.V_drew HO248.out)
    have n5_ := Aside0.mk (Kd.N_drew HO252.out)
    have n6_ := Aside0.mk (Kd.V_drew HO256.out)
    have n7_ := Aside0.mk (Kd.N_drew HO260.out)
    have n8_ := Aside0.mk (Kd.V_drew HO264.out)
    have n9_ := Aside0.mk (blk_drew BK235.out)
    have n10_ := Aside0.mk (blk_drew BK236.out)
    have n11_ := Aside0.mk (blk_drew BK237.out)
    have n12_ := Aside0.mk (blk_drew BK249.out)
    have n13_ := Aside0.mk (below_drew1 HB.out)
    clear HO_236001
    clear HO_237001
    clear HO_238001
    clear HO244
    clear HO248
    clear HO252
    clear HO256
    clear HO260
    clear HO264
    clear BK235
    clear BK236
    clear BK237
    clear BK249
    clear HB
    have HO_236001 := n0_
    have HO_237001 := n1_
    have HO_238001 := n2_
    have HO244 := n3_
    have HO248 := n4_
    have HO252 := n5_
    have HO256 := n6_
    have HO260 := n7_
    have HO264 := n8_
    have BK235 := n9_
    have BK236 := n10_
    have BK237 := n11_
    have BK249 := n12_
    have HB := n13_
    clear n0_ n1_ n2_ n3_ n4_ n5_ n6_ n7_ n8_ n9_ n10_ n11_ n12_ n13_
    refine start_ (n := 13) (S := fun w' => True) (ds := []) q7_0 (by kernel_rfl) rfl rfl trivial (fun hHeld => ?_); refine with_tabW colloquylaw06_AttrJoins.tab7 colloquylaw06_AttrJoins.bits7 (fun HT_ HW_ => ?_)
    generalize w76.drew = w77 at HO_236001 HO_237001 HO_238001 HO244 HO248 HO252 HO256 HO260 HO264 BK235 BK236 BK237 BK249 HB hHeld ⊢
    refine inv_at [0, 1, 2, 3, 4, 5, 6, 7, 8, 9, 10, 11, 12] (fun a0_ b a w' => ∃ (v267 : Value) (v271 : Value) (v274 : Value) (v278 : Value) (v281 : Value) (v285 : Value) (m3_ : Value) (m8_ : Value) (m10_ : Value), a = putSel a0_ b [(0, 50, .agg #[.int .i64 t245, .slice Ao61 t246.length co61]), (1, 51, .agg #[.int .i64 a2_0, .slice A2_1 l2_1.length c2_1]), (2, 52, v267), (3, 53, m3_), (4, 54, .agg #[.int .i64 a0_0, .slice A0_1 l0_1.length c0_1]), (5, 55, .agg #[.int .i64 a1_0, .slice A1_1 l1_1.length c1_1]), (6, 56, .agg #[.int .i64 a2_0, .slice A2_1 l2_1.length c2_1]), (7, 57, v274), (8, 58, m8_), (9, 59, v281), (10, 60, m10_), (11, 61, .bool t287), (12, 11, .bool t287)] ∧ (Kd.N k27 27 w' w.heap.size (fun k_ => ((P0_1_ k_ ∨ P1_1_ k_ ∨ P2_1_ k_) ∨ w.heap.size ≤ k_) ∧ some k_ ≠ (.slice Ao66 y250.length co66 : Value).ownBlock ∧ some k_ ≠ (.slice Ao73 y258.length co73 : Value).ownBlock ∧ k_ ≠ gb235 ∧ k_ ≠ gb236 ∧ k_ ≠ gb237 ∧ k_ ≠ gb249) (.slice Ao54 y242.length co54) y242) ∧ (Kd.V (Kd.int .i64) 3 w' w.heap.size (fun k_ => ((P0_1_ k_ ∨ P1_1_ k_ ∨ P2_1_ k_) ∨ w.heap.size ≤ k_) ∧ some k_ ≠ (.slice Ao54 y242.length co54 : Value).ownBlock ∧ some k_ ≠ (.slice Ao66 y250.length co66 : Value).ownBlock ∧ some k_ ≠ (.slice Ao73 y258.length co73 : Value).ownBlock ∧ k_ ≠ gb235 ∧ k_ ≠ gb236 ∧ k_ ≠ gb237 ∧ k_ ≠ gb249) (.slice Ao61 t246.length co61) t246) ∧ (Kd.N k27 27 w' w.heap.size (fun k_ => ((P0_1_ k_ ∨ P1_1_ k_ ∨ P2_1_ k_) ∨ w.heap.size ≤ k_) ∧ some k_ ≠ (.slice Ao54 y242.length co54 : Value).ownBlock ∧ some k_ ≠ (.slice Ao73 y258.length co73 : Value).ownBlock ∧ k_ ≠ gb235 ∧ k_ ≠ gb236 ∧ k_ ≠ gb237 ∧ k_ ≠ gb249) (.slice Ao66 y250.length co66) y250) ∧ (Kd.V (Kd.int .i64) 3 w' w.heap.size (fun k_ => ((P0_1_ k_ ∨ P1_1_ k_ ∨ P2_1_ k_) ∨ w.heap.size ≤ k_) ∧ some k_ ≠ (.slice Ao54 y242.length co54 : Value).ownBlock ∧ some k_ ≠ (.slice Ao66 y250.length co66 : Value).ownBlock ∧ some k_ ≠ (.slice Ao73 y258.length co73 : Value).ownBlock ∧ k_ ≠ gb235 ∧ k_ ≠ gb236 ∧ k_ ≠ gb237 ∧ k_ ≠ gb249) (.slice Ao68 t254.length co68) t254) ∧ (Kd.N k27 27 w' w.heap.size (fun k_ => ((P0_1_ k_ ∨ P1_1_ k_ ∨ P2_1_ k_) ∨ w.heap.size ≤ k_) ∧ some k_ ≠ (.slice Ao54 y242.length co54 : Value).ownBlock ∧ some k_ ≠ (.slice Ao66 y250.length co66 : Value).ownBlock ∧ k_ ≠ gb235 ∧ k_ ≠ gb236 ∧ k_ ≠ gb237 ∧ k_ ≠ gb249) (.slice Ao73 y258.length co73) y258) ∧ (Kd.V (Kd.int .i64) 3 w' w.heap.size (fun k_ => ((P0_1_ k_ ∨ P1_1_ k_ ∨ P2_1_ k_) ∨ w.heap.size ≤ k_) ∧ some k_ ≠ (.slice Ao54 y242.length co54 : Value).ownBlock ∧ some k_ ≠ (.slice Ao66 y250.length co66 : Value).ownBlock ∧ some k_ ≠ (.slice Ao73 y258.length co73 : Value).ownBlock ∧ k_ ≠ gb235 ∧ k_ ≠ gb236 ∧ k_ ≠ gb237 ∧ k_ ≠ gb249) (.slice Ao75 t262.length co75) t262) ∧ (Kd.V (Kd.int .i64) 3 w' w.heap.size (fun k_ => ((P0_1_ k_ ∨ P1_1_ k_ ∨ P2_1_ k_) ∨ w.heap.size ≤ k_) ∧ some k_ ≠ (.slice Ao54 y242.length co54 : Value).ownBlock ∧ some k_ ≠ (.slice Ao66 y250.length co66 : Value).ownBlock ∧ some k_ ≠ (.slice Ao73 y258.length co73 : Value).ownBlock ∧ k_ ≠ gb235 ∧ k_ ≠ gb236 ∧ k_ ≠ gb237 ∧ k_ ≠ gb249) (.slice A0_1 l0_1.length c0_1) l0_1) ∧ (Kd.V (Kd.int .i64) 3 w' w.heap.size (fun k_ => ((P0_1_ k_ ∨ P1_1_ k_ ∨ P2_1_ k_) ∨ w.heap.size ≤ k_) ∧ some k_ ≠ (.slice Ao54 y242.length co54 : Value).ownBlock ∧ some k_ ≠ (.slice Ao66 y250.length co66 : Value).ownBlock ∧ some k_ ≠ (.slice Ao73 y258.length co73 : Value).ownBlock ∧ k_ ≠ gb235 ∧ k_ ≠ gb236 ∧ k_ ≠ gb237 ∧ k_ ≠ gb249) (.slice A1_1 l1_1.length c1_1) l1_1) ∧ (Kd.V (Kd.int .i64) 3 w' w.heap.size (fun k_ => ((P0_1_ k_ ∨ P1_1_ k_ ∨ P2_1_ k_) ∨ w.heap.size ≤ k_) ∧ some k_ ≠ (.slice Ao54 y242.length co54 : Value).ownBlock ∧ some k_ ≠ (.slice Ao66 y250.length co66 : Value).ownBlock ∧ some k_ ≠ (.slice Ao73 y258.length co73 : Value).ownBlock ∧ k_ ≠ gb235 ∧ k_ ≠ gb236 ∧ k_ ≠ gb237 ∧ k_ ≠ gb249) (.slice A2_1 l2_1.length c2_1) l2_1) ∧ (w'.heap[gb235]? = some (.cells #[.int .i64 a0_0, .slice A0_1 l0_1.length c0_1] 27 (0, 0))) ∧ (w'.heap[gb236]? = some (.cells #[.int .i64 a1_0, .slice A1_1 l1_1.length c1_1] 27 (0, 0))) ∧ (w'.heap[gb237]? = some (.cells #[.int .i64 a2_0, .slice A2_1 l2_1.length c2_1] 27 (0, 0))) ∧ (w'.heap[gb249]? = some (.cells #[.int .i64 t245, .slice Ao61 t246.length co61] 27 (0, 0))) ∧ (Below w.heap.size w w') ∧ (b 2 = true → Kd.N k27 27 w' w.heap.size (fun k_ => ((P0_1_ k_ ∨ P1_1_ k_ ∨ P2_1_ k_) ∨ w.heap.size ≤ k_) ∧ some k_ ≠ (.slice Ao54 y242.length co54 : Value).ownBlock ∧ some k_ ≠ (.slice Ao66 y250.length co66 : Value).ownBlock ∧ some k_ ≠ (.slice Ao73 y258.length co73 : Value).ownBlock ∧ k_ ≠ gb235 ∧ k_ ≠ gb236 ∧ k_ ≠ gb237 ∧ k_ ≠ gb249) v267 y266) ∧ (b 3 = true → Kd.V (Kd.int .i64) 3 w' w.heap.size (fun k_ => ((P0_1_ k_ ∨ P1_1_ k_ ∨ P2_1_ k_) ∨ w.heap.size ≤ k_) ∧ some k_ ≠ (.slice Ao54 y242.length co54 : Value).ownBlock ∧ some k_ ≠ (.slice Ao66 y250.length co66 : Value).ownBlock ∧ some k_ ≠ (.slice Ao73 y258.length co73 : Value).ownBlock ∧ k_ ≠ gb235 ∧ k_ ≠ gb236 ∧ k_ ≠ gb237 ∧ k_ ≠ gb249) v271 t270) ∧ (b 7 = true → Kd.N k27 27 w' w.heap.size (fun k_ => ((P0_1_ k_ ∨ P1_1_ k_ ∨ P2_1_ k_) ∨ w.heap.size ≤ k_) ∧ some k_ ≠ (.slice Ao54 y242.length co54 : Value).ownBlock ∧ some k_ ≠ (.slice Ao66 y250.length co66 : Value).ownBlock ∧ some k_ ≠ (.slice Ao73 y258.length co73 : Value).ownBlock ∧ k_ ≠ gb235 ∧ k_ ≠ gb236 ∧ k_ ≠ gb237 ∧ k_ ≠ gb249) v274 y273) ∧ (b 8 = true → Kd.V (Kd.int .i64) 3 w' w.heap.size (fun k_ => ((P0_1_ k_ ∨ P1_1_ k_ ∨ P2_1_ k_) ∨ w.heap.size ≤ k_) ∧ some k_ ≠ (.slice Ao54 y242.length co54 : Value).ownBlock ∧ some k_ ≠ (.slice Ao66 y250.length co66 : Value).ownBlock ∧ some k_ ≠ (.slice Ao73 y258.length co73 : Value).ownBlock ∧ k_ ≠ gb235 ∧ k_ ≠ gb236 ∧ k_ ≠ gb237 ∧ k_ ≠ gb249) v278 t277) ∧ (b 9 = true → Kd.N k27 27 w' w.heap.size (fun k_ => ((P0_1_ k_ ∨ P1_1_ k_ ∨ P2_1_ k_) ∨ w.heap.size ≤ k_) ∧ some k_ ≠ (.slice Ao54 y242.length co54 : Value).ownBlock ∧ some k_ ≠ (.slice Ao66 y250.length co66 : Value).ownBlock ∧ some k_ ≠ (.slice Ao73 y258.length co73 : Value).ownBlock ∧ k_ ≠ gb235 ∧ k_ ≠ gb236 ∧ k_ ≠ gb237 ∧ k_ ≠ gb249) v281 y280) ∧ (b 10 = true → Kd.V (Kd.int .i64) 3 w' w.heap.size (fun k_ => ((P0_1_ k_ ∨ P1_1_ k_ ∨ P2_1_ k_) ∨ w.heap.size ≤ k_) ∧ some k_ ≠ (.slice Ao54 y242.length co54 : Value).ownBlock ∧ some k_ ≠ (.slice Ao66 y250.length co66 : Value).ownBlock ∧ some k_ ≠ (.slice Ao73 y258.length co73 : Value).ownBlock ∧ k_ ≠ gb235 ∧ k_ ≠ gb236 ∧ k_ ≠ gb237 ∧ k_ ≠ gb249) v285 t284) ∧ (b 3 = true → (m3_ : Value) = .agg #[.int .i64 t269, v271]) ∧ (b 8 = true → (m8_ : Value) = .agg #[.int .i64 t276, v278]) ∧ (b 10 = true → (m10_ : Value) = .agg #[.int .i64 t283, v285])) HT_.out HW_.out (by kernel_rfl) (by kernel_rfl) ?_ ?_ ?_
    ·
     exact ⟨.bool false, .bool false, .bool false, .bool false, .bool false, .bool false, .bool false, .bool false, .bool false, by simp only [putSel, Bool.false_eq_true, if_false], (by first | exact HO244.out | exact Kd.N_mono HO244.out (fun _ hk_ => (by simp only [and_assoc, and_left_comm, and_comm] at hk_ ⊢; exact hk_)) | exact Kd.V_mono HO244.out (fun _ hk_ => (by simp only [and_assoc, and_left_comm, and_comm] at hk_ ⊢; exact hk_)) | exact Kd.R_mono HO244.out (fun _ hk_ => (by simp only [and_assoc, and_left_comm, and_comm] at hk_ ⊢; exact hk_))), (by first | exact HO248.out | exact Kd.N_mono HO248.out (fun _ hk_ => (by simp only [and_assoc, and_left_comm, and_comm] at hk_ ⊢; exact hk_)) | exact Kd.V_mono HO248.out (fun _ hk_ => (by simp only [and_assoc, and_left_comm, and_comm] at hk_ ⊢; exact hk_)) | exact Kd.R_mono HO248.out (fun _ hk_ => (by simp only [and_assoc, and_left_comm, and_comm] at hk_ ⊢; exact hk_))), (by first | exact HO252.out | exact Kd.N_mono HO252.out (fun _ hk_ => (by simp only [and_assoc, and_left_comm, and_comm] at hk_ ⊢; exact hk_)) | exact Kd.V_mono HO252.out (fun _ hk_ => (by simp only [and_assoc, and_left_comm, and_comm] at hk_ ⊢; exact hk_)) | exact Kd.R_mono HO252.out (fun _ hk_ => (by simp only [and_assoc, and_left_comm, and_comm] at hk_ ⊢; exact hk_))), (by first | exact HO256.out | exact Kd.N_mono HO256.out (fun _ hk_ => (by simp only [and_assoc, and_left_comm, and_comm] at hk_ ⊢; exact hk_)) | exact Kd.V_mono HO256.out (fun _ hk_ => (by simp only [and_assoc, and_left_comm, and_comm] at hk_ ⊢; exact hk_)) | exact Kd.R_mono HO256.out (fun _ hk_ => (by simp only [and_assoc, and_left_comm, and_comm] at hk_ ⊢; exact hk_))), (by first | exact HO260.out | exact Kd.N_mono HO260.out (fun _ hk_ => (by simp only [and_assoc, and_left_comm, and_comm] at hk_ ⊢; exact hk_)) | exact Kd.V_mono HO260.out (fun _ hk_ => (by simp only [and_assoc, and_left_comm, and_comm] at hk_ ⊢; exact hk_)) | exact Kd.R_mono HO260.out (fun _ hk_ => (by simp only [and_assoc, and_left_comm, and_comm] at hk_ ⊢; exact hk_))), (by first | exact HO264.out | exact Kd.N_mono HO264.out (fun _ hk_ => (by simp only [and_assoc, and_left_comm, and_comm] at hk_ ⊢; exact hk_)) | exact Kd.V_mono HO264.out (fun _ hk_ => (by simp only [and_assoc, and_left_comm, and_comm] at hk_ ⊢; exact hk_)) | exact Kd.R_mono HO264.out (fun _ hk_ => (by simp only [and_assoc, and_left_comm, and_comm] at hk_ ⊢; exact hk_))), (by first | exact HO_236001.out | exact Kd.N_mono HO_236001.out (fun _ hk_ => (by simp only [and_assoc, and_left_comm, and_comm] at hk_ ⊢; exact hk_)) | exact Kd.V_mono HO_236001.out (fun _ hk_ => (by simp only [and_assoc, and_left_comm, and_comm] at hk_ ⊢; exact hk_)) | exact Kd.R_mono HO_236001.out (fun _ hk_ => (by simp only [and_assoc, and_left_comm, and_comm] at hk_ ⊢; exact hk_))), (by first | exact HO_237001.out | exact Kd.N_mono HO_237001.out (fun _ hk_ => (by simp only [and_assoc, and_left_comm, and_comm] at hk_ ⊢; exact hk_)) | exact Kd.V_mono HO_237001.out (fun _ hk_ => (by simp only [and_assoc, and_left_comm, and_comm] at hk_ ⊢; exact hk_)) | exact Kd.R_mono HO_237001.out (fun _ hk_ => (by simp only [and_assoc, and_left_comm, and_comm] at hk_ ⊢; exact hk_))), (by first | exact HO_238001.out | exact Kd.N_mono HO_238001.out (fun _ hk_ => (by simp only [and_assoc, and_left_comm, and_comm] at hk_ ⊢; exact hk_)) | exact Kd.V_mono HO_238001.out (fun _ hk_ => (by simp only [and_assoc, and_left_comm, and_comm] at hk_ ⊢; exact hk_)) | exact Kd.R_mono HO_238001.out (fun _ hk_ => (by simp only [and_assoc, and_left_comm, and_comm] at hk_ ⊢; exact hk_))), BK235.out, BK236.out, BK237.out, BK249.out, HB.out, fun h_ => absurd h_ (by decide), fun h_ => absurd h_ (by decide), fun h_ => absurd h_ (by decide), fun h_ => absurd h_ (by decide), fun h_ => absurd h_ (by decide), fun h_ => absurd h_ (by decide), fun h_ => absurd h_ (by decide), fun h_ => absurd h_ (by decide), fun h_ => absurd h_ (by decide)⟩
    ·
     skip
     clear BK235 BK236 BK237 BK249 HB HO244 HO248 HO252 HO256 HO260 HO264 HO_236001 HO_237001 HO_238001
     refine steps_cons ?_ ?_
     ·
      rintro b a w' ⟨v267, v271, v274, v278, v281, v285, m3_, m8_, m10_, ha, Q_HO244, Q_HO248, Q_HO252, Q_HO256, Q_HO260, Q_HO264, Q_HO_236001, Q_HO_237001, Q_HO_238001, Q_BK235, Q_BK236, Q_BK237, Q_BK249, Q_HB, Q_HO268, Q_HO272, Q_HO275, Q_HO279, Q_HO282, Q_HO286, Q_X3_, Q_X8_, Q_X10_⟩ hb_ hon hoff
      refine ⟨_, rfl, fun K hK => ?_⟩
      have e8 : a.tmps[8]? = some (.pointer (some ⟨gb249, 0, none⟩)) := by rw [ha]; exact (putSel_off rfl).trans rfl
      replace ha := Aside0.mk ha
      have HO244 := Aside0.mk Q_HO244
      have HO248 := Aside0.mk Q_HO248
      have HO252 := Aside0.mk Q_HO252
      have HO256 := Aside0.mk Q_HO256
      have HO260 := Aside0.mk Q_HO260
      have HO264 := Aside0.mk Q_HO264
      have HO_236001 := Aside0.mk Q_HO_236001
      have HO_237001 := Aside0.mk Q_HO_237001
      have HO_238001 := Aside0.mk Q_HO_238001
      have BK235 := Aside0.mk Q_BK235
      have BK236 := Aside0.mk Q_BK236
      have BK237 := Aside0.mk Q_BK237
      have BK249 := Aside0.mk Q_BK249
      have HB := Aside0.mk Q_HB
      have hc0_ : w'.cell? ⟨gb249, 0, none⟩ = some (.int .i64 t245) := (blk_cell BK249.out 0).trans rfl
      have hc1_ : w'.cell? ⟨gb249, 1, none⟩ = some (.slice Ao61 t246.length co61) := (blk_cell BK249.out 1).trans rfl
      refine value_ (w1 := w') (v := .agg #[.int .i64 t245, .slice Ao61 t246.length co61]) (by rfl) rfl ?_ ?_
      ·
       go_simp
       (try simp only [i64_w])
       try rfl
      refine hK.out _ _ ⟨v267, v271, v274, v278, v281, v285, m3_, m8_, m10_, (by rw [ha.out]; exact putSel_upk 0 hb_ rfl rfl rfl), Q_HO244, Q_HO248, Q_HO252, Q_HO256, Q_HO260, Q_HO264, Q_HO_236001, Q_HO_237001, Q_HO_238001, Q_BK235, Q_BK236, Q_BK237, Q_BK249, Q_HB, fun h0_ => absurd ((hoff 2 (by kernel_rfl)).symm.trans h0_) (by decide), fun h0_ => absurd ((hoff 3 (by kernel_rfl)).symm.trans h0_) (by decide), Q_HO275, fun h0_ => absurd ((hoff 8 (by kernel_rfl)).symm.trans h0_) (by decide), fun h0_ => absurd ((hoff 9 (by kernel_rfl)).symm.trans h0_) (by decide), fun h0_ => absurd ((hoff 10 (by kernel_rfl)).symm.trans h0_) (by decide), fun h0_ => absurd ((hoff 3 (by kernel_rfl)).symm.trans h0_) (by decide), fun h0_ => absurd ((hoff 8 (by kernel_rfl)).symm.trans h0_) (by decide), fun h0_ => absurd ((hoff 10 (by kernel_rfl)).symm.trans h0_) (by decide)⟩
     refine steps_cons ?_ ?_
     ·
      rintro b a w' ⟨v267, v271, v274, v278, v281, v285, m3_, m8_, m10_, ha, Q_HO244, Q_HO248, Q_HO252, Q_HO256, Q_HO260, Q_HO264, Q_HO_236001, Q_HO_237001, Q_HO_238001, Q_BK235, Q_BK236, Q_BK237, Q_BK249, Q_HB, Q_HO268, Q_HO272, Q_HO275, Q_HO279, Q_HO282, Q_HO286, Q_X3_, Q_X8_, Q_X10_⟩ hb_ hon hoff
      refine ⟨_, rfl, fun K hK => ?_⟩
      have e5 : a.tmps[5]? = some (.pointer (some ⟨gb237, 0, none⟩)) := by rw [ha]; exact (putSel_off rfl).trans rfl
      replace ha := Aside0.mk ha
      have HO244 := Aside0.mk Q_HO244
      have HO248 := Aside0.mk Q_HO248
      have HO252 := Aside0.mk Q_HO252
      have HO256 := Aside0.mk Q_HO256
      have HO260 := Aside0.mk Q_HO260
      have HO264 := Aside0.mk Q_HO264
      have HO_236001 := Aside0.mk Q_HO_236001
      have HO_237001 := Aside0.mk Q_HO_237001
      have HO_238001 := Aside0.mk Q_HO_238001
      have BK235 := Aside0.mk Q_BK235
      have BK236 := Aside0.mk Q_BK236
      have BK237 := Aside0.mk Q_BK237
      have BK249 := Aside0.mk Q_BK249
      have HB := Aside0.mk Q_HB
      have hc0_ : w'.cell? ⟨gb237, 0, none⟩ = some (.int .i64 a2_0) := (blk_cell BK237.out 0).trans rfl
      have hc1_ : w'.cell? ⟨gb237, 1, none⟩ = some (.slice A2_1 l2_1.length c2_1) := (blk_cell BK237.out 1).trans rfl
      refine value_ (w1 := w') (v := .agg #[.int .i64 a2_0, .slice A2_1 l2_1.length c2_1]) (by rfl) rfl ?_ ?_
      ·
       go_simp
       (try simp only [i64_w])
       try rfl
      refine hK.out _ _ ⟨v267, v271, v274, v278, v281, v285, m3_, m8_, m10_, (by rw [ha.out]; exact putSel_upk 1 hb_ rfl rfl rfl), Q_HO244, Q_HO248, Q_HO252, Q_HO256, Q_HO260, Q_HO264, Q_HO_236001, Q_HO_237001, Q_HO_238001, Q_BK235, Q_BK236, Q_BK237, Q_BK249, Q_HB, fun h0_ => absurd ((hoff 2 (by kernel_rfl)).symm.trans h0_) (by decide), fun h0_ => absurd ((hoff 3 (by kernel_rfl)).symm.trans h0_) (by decide), Q_HO275, fun h0_ => absurd ((hoff 8 (by kernel_rfl)).symm.trans h0_) (by decide), fun h0_ => absurd ((hoff 9 (by kernel_rfl)).symm.trans h0_) (by decide), fun h0_ => absurd ((hoff 10 (by kernel_rfl)).symm.trans h0_) (by decide), fun h0_ => absurd ((hoff 3 (by kernel_rfl)).symm.trans h0_) (by decide), fun h0_ => absurd ((hoff 8 (by kernel_rfl)).symm.trans h0_) (by decide), fun h0_ => absurd ((hoff 10 (by kernel_rfl)).symm.trans h0_) (by decide)⟩
     refine steps_cons ?_ ?_
     ·
      rintro b a w' ⟨v267, v271, v274, v278, v281, v285, m3_, m8_, m10_, ha, Q_HO244, Q_HO248, Q_HO252, Q_HO256, Q_HO260, Q_HO264, Q_HO_236001, Q_HO_237001, Q_HO_238001, Q_BK235, Q_BK236, Q_BK237, Q_BK249, Q_HB, Q_HO268, Q_HO272, Q_HO275, Q_HO279, Q_HO282, Q_HO286, Q_X3_, Q_X8_, Q_X10_⟩ hb_ hon hoff
      refine ⟨_, rfl, fun K hK => ?_⟩
      have e50 : a.tmps[50]? = some (.agg #[.int .i64 t245, .slice Ao61 t246.length co61]) := by rw [ha]; exact putSel_on (e := (0, 50, .agg #[.int .i64 t245, .slice Ao61 t246.length co61])) 0 rfl rfl (hon 0 (by kernel_rfl)) rfl
      have e51 : a.tmps[51]? = some (.agg #[.int .i64 a2_0, .slice A2_1 l2_1.length c2_1]) := by rw [ha]; exact putSel_on (e := (1, 51, .agg #[.int .i64 a2_0, .slice A2_1 l2_1.length c2_1])) 1 rfl rfl (hon 1 (by kernel_rfl)) rfl
      replace ha := Aside0.mk ha
      have HO244 := Aside0.mk Q_HO244
      have HO248 := Aside0.mk Q_HO248
      have HO252 := Aside0.mk Q_HO252
      have HO256 := Aside0.mk Q_HO256
      have HO260 := Aside0.mk Q_HO260
      have HO264 := Aside0.mk Q_HO264
      have HO_236001 := Aside0.mk Q_HO_236001
      have HO_237001 := Aside0.mk Q_HO_237001
      have HO_238001 := Aside0.mk Q_HO_238001
      have BK235 := Aside0.mk Q_BK235
      have BK236 := Aside0.mk Q_BK236
      have BK237 := Aside0.mk Q_BK237
      have BK249 := Aside0.mk Q_BK249
      have HB := Aside0.mk Q_HB
      refine Kd.N_lit_step k27 _ 27 ?hg (N' := 52) ?hd (xs := ([(⟨t245, t246⟩ : S27), (⟨a2_0, l2_1⟩ : S27)] : List (S27))) (inner := [.int .i64 t245, .slice Ao61 t246.length co61, .int .i64 a2_0, .slice A2_1 l2_1.length c2_1]) (ok := (fun k_ => ((P0_1_ k_ ∨ P1_1_ k_ ∨ P2_1_ k_) ∨ w.heap.size ≤ k_) ∧ some k_ ≠ (.slice Ao54 y242.length co54 : Value).ownBlock ∧ some k_ ≠ (.slice Ao66 y250.length co66 : Value).ownBlock ∧ some k_ ≠ (.slice Ao73 y258.length co73 : Value).ownBlock ∧ k_ ≠ gb235 ∧ k_ ≠ gb236 ∧ k_ ≠ gb237 ∧ k_ ≠ gb249)) (okp := (fun k_ => ((P0_1_ k_ ∨ P1_1_ k_ ∨ P2_1_ k_) ∨ w.heap.size ≤ k_) ∧ some k_ ≠ (.slice Ao54 y242.length co54 : Value).ownBlock ∧ some k_ ≠ (.slice Ao66 y250.length co66 : Value).ownBlock ∧ some k_ ≠ (.slice Ao73 y258.length co73 : Value).ownBlock ∧ k_ ≠ gb235 ∧ k_ ≠ gb236 ∧ k_ ≠ gb237 ∧ k_ ≠ gb249)) ?hr ?hp (fun _ hk => hk) ((show ∀ k_, w'.heap.size ≤ k_ → (fun k_ => ((P0_1_ k_ ∨ P1_1_ k_ ∨ P2_1_ k_) ∨ w.heap.size ≤ k_) ∧ some k_ ≠ (.slice Ao54 y242.length co54 : Value).ownBlock ∧ some k_ ≠ (.slice Ao66 y250.length co66 : Value).ownBlock ∧ some k_ ≠ (.slice Ao73 y258.length co73 : Value).ownBlock ∧ k_ ≠ gb235 ∧ k_ ≠ gb236 ∧ k_ ≠ gb237 ∧ k_ ≠ gb249) k_ from fun k_ hk => ⟨(.inr (Nat.le_trans (below_size (gw_ HB)) hk)), Kd.fresh' (Kd.N_lt (Kd.nk HO244)) k_ hk, Kd.fresh' (Kd.N_lt (Kd.nk HO252)) k_ hk, Kd.fresh' (Kd.N_lt (Kd.nk HO260)) k_ hk, Kd.freshB (g := gb235) (bk BK235) k_ hk, Kd.freshB (g := gb236) (bk BK236) k_ hk, Kd.freshB (g := gb237) (bk BK237) k_ hk, Kd.freshB (g := gb249) (bk BK249) k_ hk⟩) _ (Nat.le_refl _)) (Below.refl _ _) (Nat.le_refl _) (by simp) ?_; (case hd => rfl); (case hg => rfl); (case hr => first | (go_simp; done) | (go_simp; rfl)); (case hp => exact (Reps.c2 (show Kd.FK k27 _ _ (⟨t245, t246⟩ : S27) [.int .i64 t245, .slice Ao61 t246.length co61] from (k27_mkF _ _ (⟨t245, t246⟩ : S27) (Kd.V_reads' (Kd.V_mono (ok' := (fun k_ => ((P0_1_ k_ ∨ P1_1_ k_ ∨ P2_1_ k_) ∨ w.heap.size ≤ k_) ∧ some k_ ≠ (.slice Ao54 y242.length co54 : Value).ownBlock ∧ some k_ ≠ (.slice Ao66 y250.length co66 : Value).ownBlock ∧ some k_ ≠ (.slice Ao73 y258.length co73 : Value).ownBlock ∧ k_ ≠ gb235 ∧ k_ ≠ gb236 ∧ k_ ≠ gb237 ∧ k_ ≠ gb249)) (HO248.out) (fun k_ hk => (by first | exact ⟨hk.1.1.1, ⟨hk.1.1.2.1, ⟨hk.1.2, ⟨hk.2, ⟨hk.1.1.2.2.1, ⟨hk.1.1.2.2.2.1, ⟨hk.1.1.2.2.2.2.1, hk.1.1.2.2.2.2.2⟩⟩⟩⟩⟩⟩⟩ | simp [hk])))).2.1 (Kd.V_F (Kd.V_mono (ok' := (fun k_ => ((P0_1_ k_ ∨ P1_1_ k_ ∨ P2_1_ k_) ∨ w.heap.size ≤ k_) ∧ some k_ ≠ (.slice Ao54 y242.length co54 : Value).ownBlock ∧ some k_ ≠ (.slice Ao66 y250.length co66 : Value).ownBlock ∧ some k_ ≠ (.slice Ao73 y258.length co73 : Value).ownBlock ∧ k_ ≠ gb235 ∧ k_ ≠ gb236 ∧ k_ ≠ gb237 ∧ k_ ≠ gb249)) (HO248.out) (fun k_ hk => (by first | exact ⟨hk.1.1.1, ⟨hk.1.1.2.1, ⟨hk.1.2, ⟨hk.2, ⟨hk.1.1.2.2.1, ⟨hk.1.1.2.2.2.1, ⟨hk.1.1.2.2.2.2.1, hk.1.1.2.2.2.2.2⟩⟩⟩⟩⟩⟩⟩ | simp [hk])))))) (Reps.c2 (show Kd.FK k27 _ _ (⟨a2_0, l2_1⟩ : S27) [.int .i64 a2_0, .slice A2_1 l2_1.length c2_1] from (k27_mkF _ _ (⟨a2_0, l2_1⟩ : S27) (Kd.V_reads' (Kd.V_mono (ok' := (fun k_ => ((P0_1_ k_ ∨ P1_1_ k_ ∨ P2_1_ k_) ∨ w.heap.size ≤ k_) ∧ some k_ ≠ (.slice Ao54 y242.length co54 : Value).ownBlock ∧ some k_ ≠ (.slice Ao66 y250.length co66 : Value).ownBlock ∧ some k_ ≠ (.slice Ao73 y258.length co73 : Value).ownBlock ∧ k_ ≠ gb235 ∧ k_ ≠ gb236 ∧ k_ ≠ gb237 ∧ k_ ≠ gb249)) (HO_238001.out) (fun k_ hk => (by first | exact ⟨hk.1.1.1, ⟨hk.1.1.2.1, ⟨hk.1.2, ⟨hk.2, ⟨hk.1.1.2.2.1, ⟨hk.1.1.2.2.2.1, ⟨hk.1.1.2.2.2.2.1, hk.1.1.2.2.2.2.2⟩⟩⟩⟩⟩⟩⟩ | simp [hk])))).2.1 (Kd.V_F (Kd.V_mono (ok' := (fun k_ => ((P0_1_ k_ ∨ P1_1_ k_ ∨ P2_1_ k_) ∨ w.heap.size ≤ k_) ∧ some k_ ≠ (.slice Ao54 y242.length co54 : Value).ownBlock ∧ some k_ ≠ (.slice Ao66 y250.length co66 : Value).ownBlock ∧ some k_ ≠ (.slice Ao73 y258.length co73 : Value).ownBlock ∧ k_ ≠ gb235 ∧ k_ ≠ gb236 ∧ k_ ≠ gb237 ∧ k_ ≠ gb249)) (HO_238001.out) (fun k_ hk => (by first | exact ⟨hk.1.1.1, ⟨hk.1.1.2.1, ⟨hk.1.2, ⟨hk.2, ⟨hk.1.1.2.2.1, ⟨hk.1.1.2.2.2.1, ⟨hk.1.1.2.2.2.2.1, hk.1.1.2.2.2.2.2⟩⟩⟩⟩⟩⟩⟩ | simp [hk])))))) (Reps.none _ _))))
      intro v267 w78 ho79 hb hg_ hnew_
      clear hg_ hnew_
      (first | rw [← Ny266.out] at ho79 | (simp only [Int.reduceToNat] at ho79; rw [← Ny266.out] at ho79))
      have n0_ := Aside0.mk (Kd.V_elder' (Kd.vk HO_236001) (Kd.N_base ho79) hb)
      have n1_ := Aside0.mk (Kd.V_elder' (Kd.vk HO_237001) (Kd.N_base ho79) hb)
      have n2_ := Aside0.mk (Kd.V_elder' (Kd.vk HO_238001) (Kd.N_base ho79) hb)
      have n3_ := Aside0.mk (Kd.N_elder' (Kd.nk HO244) (Kd.N_base ho79) hb)
      have n4_ := Aside0.mk (Kd.V_elder' (Kd.vk HO248) (Kd.N_base ho79) hb)
      have n5_ := Aside0.mk (Kd.N_elder' (Kd.nk HO252) (Kd.N_base ho79) hb)
      have n6_ := Aside0.mk (Kd.V_elder' (Kd.vk HO256) (Kd.N_base ho79) hb)
      have n7_ := Aside0.mk (Kd.N_elder' (Kd.nk HO260) (Kd.N_base ho79) hb)
      have n8_ := Aside0.mk (Kd.V_elder' (Kd.vk HO264) (Kd.N_base ho79) hb)
      have n9_ := Aside0.mk (Kd.N_lower ho79 (below_size (gw_ HB)))
      have n10_ := Aside0.mk (blk_below (g := gb235) (bk BK235) hb)
      have n11_ := Aside0.mk (blk_below (g := gb236) (bk BK236) hb)
      have n12_ := Aside0.mk (blk_below (g := gb237) (bk BK237) hb)
      have n13_ := Aside0.mk (blk_below (g := gb249) (bk BK249) hb)
      have n14_ := Aside0.mk (below_step (gw_ HB) hb)
      have z_HO275 := fun (h0_ : b 7 = true) => (show Kd.N k27 27 w78 w.heap.size (fun k_ => ((P0_1_ k_ ∨ P1_1_ k_ ∨ P2_1_ k_) ∨ w.heap.size ≤ k_) ∧ some k_ ≠ (.slice Ao54 y242.length co54 : Value).ownBlock ∧ some k_ ≠ (.slice Ao66 y250.length co66 : Value).ownBlock ∧ some k_ ≠ (.slice Ao73 y258.length co73 : Value).ownBlock ∧ k_ ≠ gb235 ∧ k_ ≠ gb236 ∧ k_ ≠ gb237 ∧ k_ ≠ gb249) v274 y273 from by first | exact (Kd.N_elder' (by (with_reducible repeat (first | apply Kd.N_alloc | apply Kd.N_drewN | apply Kd.N_drew)); exact (Q_HO275 h0_)) (Kd.N_base ho79) hb) | exact Kd.N_mono (Kd.N_elder' (by (with_reducible repeat (first | apply Kd.N_alloc | apply Kd.N_drewN | apply Kd.N_drew)); exact (Q_HO275 h0_)) (Kd.N_base ho79) hb) (fun _ h_ => by first | trivial | exact h_ | exact h_.1))
      clear HO_236001
      clear HO_237001
      clear HO_238001
      clear HO244
      clear HO248
      clear HO252
      clear HO256
      clear HO260
      clear HO264
      clear BK235
      clear BK236
      clear BK237
      clear BK249
      clear HB
      have HO_236001 := n0_
      have HO_237001 := n1_
      have HO_238001 := n2_
      have HO244 := n3_
      have HO248 := n4_
      have HO252 := n5_
      have HO256 := n6_
      have HO260 := n7_
      have HO264 := n8_
      have HO268 := n9_
      have BK235 := n10_
      have BK236 := n11_
      have BK237 := n12_
      have BK249 := n13_
      have HB := n14_
      clear n0_ n1_ n2_ n3_ n4_ n5_ n6_ n7_ n8_ n9_ n10_ n11_ n12_ n13_ n14_
      clear hb ho79
      refine hK.out _ _ ⟨v267, v271, v274, v278, v281, v285, m3_, m8_, m10_, (by rw [ha.out]; exact putSel_upk 2 hb_ rfl rfl rfl), (by (with_reducible repeat (first | apply Kd.N_alloc | apply Kd.N_drewN | apply Kd.N_drew)); exact Kd.N_mono HO244.out (fun _ hk => (by first | exact ⟨hk.1.1.1.1, ⟨hk.1.1.2, ⟨hk.1.2, ⟨hk.2, ⟨hk.1.1.1.2.1, ⟨hk.1.1.1.2.2.1, ⟨hk.1.1.1.2.2.2.1, hk.1.1.1.2.2.2.2⟩⟩⟩⟩⟩⟩⟩ | simp [hk]))), (by (with_reducible repeat (first | apply Kd.V_alloc | apply Kd.V_drewN | apply Kd.V_drew)); exact Kd.V_mono HO248.out (fun _ hk => (by first | exact ⟨hk.1.1.1.1, ⟨hk.1.1.1.2.1, ⟨hk.1.1.2, ⟨hk.1.2, ⟨hk.2, ⟨hk.1.1.1.2.2.1, ⟨hk.1.1.1.2.2.2.1, ⟨hk.1.1.1.2.2.2.2.1, hk.1.1.1.2.2.2.2.2⟩⟩⟩⟩⟩⟩⟩⟩ | simp [hk]))), (by (with_reducible repeat (first | apply Kd.N_alloc | apply Kd.N_drewN | apply Kd.N_drew)); exact Kd.N_mono HO252.out (fun _ hk => (by first | exact ⟨hk.1.1.1, ⟨hk.1.1.2.1, ⟨hk.1.2, ⟨hk.2, ⟨hk.1.1.2.2.1, ⟨hk.1.1.2.2.2.1, ⟨hk.1.1.2.2.2.2.1, hk.1.1.2.2.2.2.2⟩⟩⟩⟩⟩⟩⟩ | simp [hk]))), (by (with_reducible repeat (first | apply Kd.V_alloc | apply Kd.V_drewN | apply Kd.V_drew)); exact Kd.V_mono HO256.out (fun _ hk => (by first | exact ⟨hk.1.1.1, ⟨hk.1.1.2.1, ⟨hk.1.1.2.2.1, ⟨hk.1.2, ⟨hk.2, ⟨hk.1.1.2.2.2.1, ⟨hk.1.1.2.2.2.2.1, ⟨hk.1.1.2.2.2.2.2.1, hk.1.1.2.2.2.2.2.2⟩⟩⟩⟩⟩⟩⟩⟩ | simp [hk]))), (by (with_reducible repeat (first | apply Kd.N_alloc | apply Kd.N_drewN | apply Kd.N_drew)); exact Kd.N_mono HO260.out (fun _ hk => (by first | exact ⟨hk.1.1, ⟨hk.1.2.1, ⟨hk.1.2.2.1, ⟨hk.2, ⟨hk.1.2.2.2.1, ⟨hk.1.2.2.2.2.1, ⟨hk.1.2.2.2.2.2.1, hk.1.2.2.2.2.2.2⟩⟩⟩⟩⟩⟩⟩ | simp [hk]))), (by (with_reducible repeat (first | apply Kd.V_alloc | apply Kd.V_drewN | apply Kd.V_drew)); exact Kd.V_mono HO264.out (fun _ hk => (by first | exact ⟨hk.1.1, ⟨hk.1.2.1, ⟨hk.1.2.2.1, ⟨hk.1.2.2.2.1, ⟨hk.2, ⟨hk.1.2.2.2.2.1, ⟨hk.1.2.2.2.2.2.1, ⟨hk.1.2.2.2.2.2.2.1, hk.1.2.2.2.2.2.2.2⟩⟩⟩⟩⟩⟩⟩⟩ | simp [hk]))), (by (with_reducible repeat (first | apply Kd.V_alloc | apply Kd.V_drewN | apply Kd.V_drew)); exact Kd.V_mono HO_236001.out (fun _ hk => (by first | exact ⟨hk.1.1.1.1, ⟨hk.1.1.1.2.1, ⟨hk.1.1.2, ⟨hk.1.2, ⟨hk.2, ⟨hk.1.1.1.2.2.1, ⟨hk.1.1.1.2.2.2.1, ⟨hk.1.1.1.2.2.2.2.1, hk.1.1.1.2.2.2.2.2⟩⟩⟩⟩⟩⟩⟩⟩ | simp [hk]))), (by (with_reducible repeat (first | apply Kd.V_alloc | apply Kd.V_drewN | apply Kd.V_drew)); exact Kd.V_mono HO_237001.out (fun _ hk => (by first | exact ⟨hk.1.1.1.1, ⟨hk.1.1.1.2.1, ⟨hk.1.1.2, ⟨hk.1.2, ⟨hk.2, ⟨hk.1.1.1.2.2.1, ⟨hk.1.1.1.2.2.2.1, ⟨hk.1.1.1.2.2.2.2.1, hk.1.1.1.2.2.2.2.2⟩⟩⟩⟩⟩⟩⟩⟩ | simp [hk]))), (by (with_reducible repeat (first | apply Kd.V_alloc | apply Kd.V_drewN | apply Kd.V_drew)); exact Kd.V_mono HO_238001.out (fun _ hk => (by first | exact ⟨hk.1.1.1.1, ⟨hk.1.1.1.2.1, ⟨hk.1.1.2, ⟨hk.1.2, ⟨hk.2, ⟨hk.1.1.1.2.2.1, ⟨hk.1.1.1.2.2.2.1, ⟨hk.1.1.1.2.2.2.2.1, hk.1.1.1.2.2.2.2.2⟩⟩⟩⟩⟩⟩⟩⟩ | simp [hk]))), (bk BK235), (bk BK236), (bk BK237), (bk BK249), (gw_ HB), fun _ => (by first | exact Kd.nk HO268 | exact Kd.N_mono (Kd.nk HO268) (fun _ hk => (by simp [hk]))), fun h0_ => absurd ((hoff 3 (by kernel_rfl)).symm.trans h0_) (by decide), z_HO275, fun h0_ => absurd ((hoff 8 (by kernel_rfl)).symm.trans h0_) (by decide), fun h0_ => absurd ((hoff 9 (by kernel_rfl)).symm.trans h0_) (by decide), fun h0_ => absurd ((hoff 10 (by kernel_rfl)).symm.trans h0_) (by decide), fun h0_ => absurd ((hoff 3 (by kernel_rfl)).symm.trans h0_) (by decide), fun h0_ => absurd ((hoff 8 (by kernel_rfl)).symm.trans h0_) (by decide), fun h0_ => absurd ((hoff 10 (by kernel_rfl)).symm.trans h0_) (by decide)⟩
     refine steps_cons ?_ ?_
     ·
      rintro b a w' ⟨v267, v271, v274, v278, v281, v285, m3_, m8_, m10_, ha, Q_HO244, Q_HO248, Q_HO252, Q_HO256, Q_HO260, Q_HO264, Q_HO_236001, Q_HO_237001, Q_HO_238001, Q_BK235, Q_BK236, Q_BK237, Q_BK249, Q_HB, Q_HO268, Q_HO272, Q_HO275, Q_HO279, Q_HO282, Q_HO286, Q_X3_, Q_X8_, Q_X10_⟩ hb_ hon hoff
      refine ⟨_, rfl, fun K hK => ?_⟩
      have e52 : a.tmps[52]? = some (v267) := by rw [ha]; exact putSel_on (e := (2, 52, v267)) 2 rfl rfl (hon 2 (by kernel_rfl)) rfl
      replace ha := Aside0.mk ha
      have HO244 := Aside0.mk Q_HO244
      have HO248 := Aside0.mk Q_HO248
      have HO252 := Aside0.mk Q_HO252
      have HO256 := Aside0.mk Q_HO256
      have HO260 := Aside0.mk Q_HO260
      have HO264 := Aside0.mk Q_HO264
      have HO_236001 := Aside0.mk Q_HO_236001
      have HO_237001 := Aside0.mk Q_HO_237001
      have HO_238001 := Aside0.mk Q_HO_238001
      have BK235 := Aside0.mk Q_BK235
      have BK236 := Aside0.mk Q_BK236
      have BK237 := Aside0.mk Q_BK237
      have BK249 := Aside0.mk Q_BK249
      have HB := Aside0.mk Q_HB
      have HO268 := Aside0.mk (Q_HO268 (hon 2 (by kernel_rfl)))
      obtain ⟨Ao81, co81, eo81⟩ := Kd.N_slice HO268.out
      (first | subst eo81 | (injection eo81 with f1_ f2_ f3_; have f4_ := f1_.symm; have f5_ := f3_.symm; clear f1_ f2_ f3_; subst f4_; subst f5_))
      refine goes_ Try.func11 (by kernel_rfl) rfl #[.slice Ao81 y266.length co81] (by rfl) rfl rfl (by first | (simp only [List.map_toArray, List.map_cons, List.map_nil, Act.eval, Array.getD_eq_getD_getElem?, Option.getD_some, e52]; done) | (simp only [List.map_toArray, List.map_cons, List.map_nil, Act.eval, Array.getD_eq_getD_getElem?, Option.getD_some, e52]; rfl)) ?_
      with_reducible refine (attr_MergeV.calls kj4 _ _ y266 t269 t270 _ ?side1 ?side2 A42.out).mono ?_
      (case side1 => repeat (first | exact (Kd.N_reads' HO268.out).2.2 | (with_reducible refine Kd.C_alloc ?_ _) | (with_reducible refine Kd.C_drewN ?_ _) | (with_reducible refine Kd.C_drew ?_)))
      (case side2 => exact (Kd.N_reads' HO268.out).2.1)
      rintro e w82 ⟨v271, rfl, ho0, hb⟩
      refine ⟨_, rfl, ?_⟩
      have n0_ := Aside0.mk (Kd.V_below (Kd.vk HO_236001) hb)
      have n1_ := Aside0.mk (Kd.V_below (Kd.vk HO_237001) hb)
      have n2_ := Aside0.mk (Kd.V_below (Kd.vk HO_238001) hb)
      have n3_ := Aside0.mk (Kd.N_below (Kd.nk HO244) hb)
      have n4_ := Aside0.mk (Kd.V_below (Kd.vk HO248) hb)
      have n5_ := Aside0.mk (Kd.N_below (Kd.nk HO252) hb)
      have n6_ := Aside0.mk (Kd.V_below (Kd.vk HO256) hb)
      have n7_ := Aside0.mk (Kd.N_below (Kd.nk HO260) hb)
      have n8_ := Aside0.mk (Kd.V_below (Kd.vk HO264) hb)
      have n9_ := Aside0.mk (Kd.N_below (Kd.nk HO268) hb)
      have n10_ := Aside0.mk (Kd.V_lower (Kd.V_mono (ok' := fun k_ => ((P0_1_ k_ ∨ P1_1_ k_ ∨ P2_1_ k_) ∨ w.heap.size ≤ k_) ∧ some k_ ≠ (.slice Ao54 y242.length co54 : Value).ownBlock ∧ some k_ ≠ (.slice Ao66 y250.length co66 : Value).ownBlock ∧ some k_ ≠ (.slice Ao73 y258.length co73 : Value).ownBlock ∧ some k_ ≠ (.slice Ao81 y266.length co81 : Value).ownBlock ∧ k_ ≠ gb235 ∧ k_ ≠ gb236 ∧ k_ ≠ gb237 ∧ k_ ≠ gb249) ho0 (fun k_ hk_ => ⟨(.inr (Nat.le_trans (below_size (gw_ HB)) hk_)), (Kd.fresh' (Kd.N_lt (Kd.nk HO244)) k_ hk_), (Kd.fresh' (Kd.N_lt (Kd.nk HO252)) k_ hk_), (Kd.fresh' (Kd.N_lt (Kd.nk HO260)) k_ hk_), (Kd.fresh' (Kd.N_lt (Kd.nk HO268)) k_ hk_), (Kd.freshB (g := gb235) (bk BK235) k_ hk_), (Kd.freshB (g := gb236) (bk BK236) k_ hk_), (Kd.freshB (g := gb237) (bk BK237) k_ hk_), (Kd.freshB (g := gb249) (bk BK249) k_ hk_)⟩)) (below_size (gw_ HB)))
      have n11_ := Aside0.mk (blk_below (g := gb235) (bk BK235) hb)
      have n12_ := Aside0.mk (blk_below (g := gb236) (bk BK236) hb)
      have n13_ := Aside0.mk (blk_below (g := gb237) (bk BK237) hb)
      have n14_ := Aside0.mk (blk_below (g := gb249) (bk BK249) hb)
      have n15_ := Aside0.mk (below_step (gw_ HB) hb)
      have z_HO275 := fun (h0_ : b 7 = true) => (show Kd.N k27 27 w82 w.heap.size (fun k_ => ((P0_1_ k_ ∨ P1_1_ k_ ∨ P2_1_ k_) ∨ w.heap.size ≤ k_) ∧ some k_ ≠ (.slice Ao54 y242.length co54 : Value).ownBlock ∧ some k_ ≠ (.slice Ao66 y250.length co66 : Value).ownBlock ∧ some k_ ≠ (.slice Ao73 y258.length co73 : Value).ownBlock ∧ k_ ≠ gb235 ∧ k_ ≠ gb236 ∧ k_ ≠ gb237 ∧ k_ ≠ gb249) v274 y273 from by first | exact (Kd.N_below (by (with_reducible repeat (first | apply Kd.N_alloc | apply Kd.N_drewN | apply Kd.N_drew)); exact (Q_HO275 h0_)) hb) | exact Kd.N_mono (Kd.N_below (by (with_reducible repeat (first | apply Kd.N_alloc | apply Kd.N_drewN | apply Kd.N_drew)); exact (Q_HO275 h0_)) hb) (fun _ h_ => by first | trivial | exact h_ | exact h_.1))
      clear HO_236001
      clear HO_237001
      clear HO_238001
      clear HO244
      clear HO248
      clear HO252
      clear HO256
      clear HO260
      clear HO264
      clear HO268
      clear BK235
      clear BK236
      clear BK237
      clear BK249
      clear HB
      have HO_236001 := n0_
      have HO_237001 := n1_
      have HO_238001 := n2_
      have HO244 := n3_
      have HO248 := n4_
      have HO252 := n5_
      have HO256 := n6_
      have HO260 := n7_
      have HO264 := n8_
      have HO268 := n9_
      have HO272 := n10_
      have BK235 := n11_
      have BK236 := n12_
      have BK237 := n13_
      have BK249 := n14_
      have HB := n15_
      clear n0_ n1_ n2_ n3_ n4_ n5_ n6_ n7_ n8_ n9_ n10_ n11_ n12_ n13_ n14_ n15_
      (try clear hb)
      (try clear hb2)
      (try clear hk)
      (try clear hi)
      (try clear ho0)
      refine hK.out _ _ ⟨.slice Ao81 y266.length co81, v271, v274, v278, v281, v285, (.agg #[.int .i64 t269, v271]), m8_, m10_, (by rw [ha.out]; exact putSel_upk 3 hb_ rfl rfl rfl), (Kd.nk HO244), (Kd.vk HO248), (Kd.nk HO252), (Kd.vk HO256), (Kd.nk HO260), (Kd.vk HO264), (Kd.vk HO_236001), (Kd.vk HO_237001), (Kd.vk HO_238001), (bk BK235), (bk BK236), (bk BK237), (bk BK249), (gw_ HB), fun _ => (by first | exact Kd.nk HO268 | exact Kd.N_mono (Kd.nk HO268) (fun _ hk => (by simp [hk]))), fun _ => (by first | exact Kd.vk HO272 | exact Kd.V_mono (Kd.vk HO272) (fun _ hk => (by simp [hk]))), z_HO275, fun h0_ => absurd ((hoff 8 (by kernel_rfl)).symm.trans h0_) (by decide), fun h0_ => absurd ((hoff 9 (by kernel_rfl)).symm.trans h0_) (by decide), fun h0_ => absurd ((hoff 10 (by kernel_rfl)).symm.trans h0_) (by decide), fun _ => rfl, fun h0_ => absurd ((hoff 8 (by kernel_rfl)).symm.trans h0_) (by decide), fun h0_ => absurd ((hoff 10 (by kernel_rfl)).symm.trans h0_) (by decide)⟩
     refine steps_cons ?_ ?_
     ·
      rintro b a w' ⟨v267, v271, v274, v278, v281, v285, m3_, m8_, m10_, ha, Q_HO244, Q_HO248, Q_HO252, Q_HO256, Q_HO260, Q_HO264, Q_HO_236001, Q_HO_237001, Q_HO_238001, Q_BK235, Q_BK236, Q_BK237, Q_BK249, Q_HB, Q_HO268, Q_HO272, Q_HO275, Q_HO279, Q_HO282, Q_HO286, Q_X3_, Q_X8_, Q_X10_⟩ hb_ hon hoff
      refine ⟨_, rfl, fun K hK => ?_⟩
      have e3 : a.tmps[3]? = some (.pointer (some ⟨gb235, 0, none⟩)) := by rw [ha]; exact (putSel_off rfl).trans rfl
      replace ha := Aside0.mk ha
      have HO244 := Aside0.mk Q_HO244
      have HO248 := Aside0.mk Q_HO248
      have HO252 := Aside0.mk Q_HO252
      have HO256 := Aside0.mk Q_HO256
      have HO260 := Aside0.mk Q_HO260
      have HO264 := Aside0.mk Q_HO264
      have HO_236001 := Aside0.mk Q_HO_236001
      have HO_237001 := Aside0.mk Q_HO_237001
      have HO_238001 := Aside0.mk Q_HO_238001
      have BK235 := Aside0.mk Q_BK235
      have BK236 := Aside0.mk Q_BK236
      have BK237 := Aside0.mk Q_BK237
      have BK249 := Aside0.mk Q_BK249
      have HB := Aside0.mk Q_HB
      have hc0_ : w'.cell? ⟨gb235, 0, none⟩ = some (.int .i64 a0_0) := (blk_cell BK235.out 0).trans rfl
      have hc1_ : w'.cell? ⟨gb235, 1, none⟩ = some (.slice A0_1 l0_1.length c0_1) := (blk_cell BK235.out 1).trans rfl
      refine value_ (w1 := w') (v := .agg #[.int .i64 a0_0, .slice A0_1 l0_1.length c0_1]) (by rfl) rfl ?_ ?_
      ·
       go_simp
       (try simp only [i64_w])
       try rfl
      refine hK.out _ _ ⟨v267, v271, v274, v278, v281, v285, m3_, m8_, m10_, (by rw [ha.out]; exact putSel_upk 4 hb_ rfl rfl rfl), Q_HO244, Q_HO248, Q_HO252, Q_HO256, Q_HO260, Q_HO264, Q_HO_236001, Q_HO_237001, Q_HO_238001, Q_BK235, Q_BK236, Q_BK237, Q_BK249, Q_HB, Q_HO268, Q_HO272, Q_HO275, Q_HO279, fun h0_ => absurd ((hoff 9 (by kernel_rfl)).symm.trans h0_) (by decide), fun h0_ => absurd ((hoff 10 (by kernel_rfl)).symm.trans h0_) (by decide), Q_X3_, Q_X8_, fun h0_ => absurd ((hoff 10 (by kernel_rfl)).symm.trans h0_) (by decide)⟩
     refine steps_cons ?_ ?_
     ·
      rintro b a w' ⟨v267, v271, v274, v278, v281, v285, m3_, m8_, m10_, ha, Q_HO244, Q_HO248, Q_HO252, Q_HO256, Q_HO260, Q_HO264, Q_HO_236001, Q_HO_237001, Q_HO_238001, Q_BK235, Q_BK236, Q_BK237, Q_BK249, Q_HB, Q_HO268, Q_HO272, Q_HO275, Q_HO279, Q_HO282, Q_HO286, Q_X3_, Q_X8_, Q_X10_⟩ hb_ hon hoff
      refine ⟨_, rfl, fun K hK => ?_⟩
      have e4 : a.tmps[4]? = some (.pointer (some ⟨gb236, 0, none⟩)) := by rw [ha]; exact (putSel_off rfl).trans rfl
      replace ha := Aside0.mk ha
      have HO244 := Aside0.mk Q_HO244
      have HO248 := Aside0.mk Q_HO248
      have HO252 := Aside0.mk Q_HO252
      have HO256 := Aside0.mk Q_HO256
      have HO260 := Aside0.mk Q_HO260
      have HO264 := Aside0.mk Q_HO264
      have HO_236001 := Aside0.mk Q_HO_236001
      have HO_237001 := Aside0.mk Q_HO_237001
      have HO_238001 := Aside0.mk Q_HO_238001
      have BK235 := Aside0.mk Q_BK235
      have BK236 := Aside0.mk Q_BK236
      have BK237 := Aside0.mk Q_BK237
      have BK249 := Aside0.mk Q_BK249
      have HB := Aside0.mk Q_HB
      have hc0_ : w'.cell? ⟨gb236, 0, none⟩ = some (.int .i64 a1_0) := (blk_cell BK236.out 0).trans rfl
      have hc1_ : w'.cell? ⟨gb236, 1, none⟩ = some (.slice A1_1 l1_1.length c1_1) := (blk_cell BK236.out 1).trans rfl
      refine value_ (w1 := w') (v := .agg #[.int .i64 a1_0, .slice A1_1 l1_1.length c1_1]) (by rfl) rfl ?_ ?_
      ·
       go_simp
       (try simp only [i64_w])
       try rfl
      refine hK.out _ _ ⟨v267, v271, v274, v278, v281, v285, m3_, m8_, m10_, (by rw [ha.out]; exact putSel_upk 5 hb_ rfl rfl rfl), Q_HO244, Q_HO248, Q_HO252, Q_HO256, Q_HO260, Q_HO264, Q_HO_236001, Q_HO_237001, Q_HO_238001, Q_BK235, Q_BK236, Q_BK237, Q_BK249, Q_HB, Q_HO268, Q_HO272, fun h0_ => absurd ((hoff 7 (by kernel_rfl)).symm.trans h0_) (by decide), fun h0_ => absurd ((hoff 8 (by kernel_rfl)).symm.trans h0_) (by decide), fun h0_ => absurd ((hoff 9 (by kernel_rfl)).symm.trans h0_) (by decide), fun h0_ => absurd ((hoff 10 (by kernel_rfl)).symm.trans h0_) (by decide), Q_X3_, fun h0_ => absurd ((hoff 8 (by kernel_rfl)).symm.trans h0_) (by decide), fun h0_ => absurd ((hoff 10 (by kernel_rfl)).symm.trans h0_) (by decide)⟩
     refine steps_cons ?_ ?_
     ·
      rintro b a w' ⟨v267, v271, v274, v278, v281, v285, m3_, m8_, m10_, ha, Q_HO244, Q_HO248, Q_HO252, Q_HO256, Q_HO260, Q_HO264, Q_HO_236001, Q_HO_237001, Q_HO_238001, Q_BK235, Q_BK236, Q_BK237, Q_BK249, Q_HB, Q_HO268, Q_HO272, Q_HO275, Q_HO279, Q_HO282, Q_HO286, Q_X3_, Q_X8_, Q_X10_⟩ hb_ hon hoff
      refine ⟨_, rfl, fun K hK => ?_⟩
      have e5 : a.tmps[5]? = some (.pointer (some ⟨gb237, 0, none⟩)) := by rw [ha]; exact (putSel_off rfl).trans rfl
      replace ha := Aside0.mk ha
      have HO244 := Aside0.mk Q_HO244
      have HO248 := Aside0.mk Q_HO248
      have HO252 := Aside0.mk Q_HO252
      have HO256 := Aside0.mk Q_HO256
      have HO260 := Aside0.mk Q_HO260
      have HO264 := Aside0.mk Q_HO264
      have HO_236001 := Aside0.mk Q_HO_236001
      have HO_237001 := Aside0.mk Q_HO_237001
      have HO_238001 := Aside0.mk Q_HO_238001
      have BK235 := Aside0.mk Q_BK235
      have BK236 := Aside0.mk Q_BK236
      have BK237 := Aside0.mk Q_BK237
      have BK249 := Aside0.mk Q_BK249
      have HB := Aside0.mk Q_HB
      have hc0_ : w'.cell? ⟨gb237, 0, none⟩ = some (.int .i64 a2_0) := (blk_cell BK237.out 0).trans rfl
      have hc1_ : w'.cell? ⟨gb237, 1, none⟩ = some (.slice A2_1 l2_1.length c2_1) := (blk_cell BK237.out 1).trans rfl
      refine value_ (w1 := w') (v := .agg #[.int .i64 a2_0, .slice A2_1 l2_1.length c2_1]) (by rfl) rfl ?_ ?_
      ·
       go_simp
       (try simp only [i64_w])
       try rfl
      refine hK.out _ _ ⟨v267, v271, v274, v278, v281, v285, m3_, m8_, m10_, (by rw [ha.out]; exact putSel_upk 6 hb_ rfl rfl rfl), Q_HO244, Q_HO248, Q_HO252, Q_HO256, Q_HO260, Q_HO264, Q_HO_236001, Q_HO_237001, Q_HO_238001, Q_BK235, Q_BK236, Q_BK237, Q_BK249, Q_HB, Q_HO268, Q_HO272, fun h0_ => absurd ((hoff 7 (by kernel_rfl)).symm.trans h0_) (by decide), fun h0_ => absurd ((hoff 8 (by kernel_rfl)).symm.trans h0_) (by decide), fun h0_ => absurd ((hoff 9 (by kernel_rfl)).symm.trans h0_) (by decide), fun h0_ => absurd ((hoff 10 (by kernel_rfl)).symm.trans h0_) (by decide), Q_X3_, fun h0_ => absurd ((hoff 8 (by kernel_rfl)).symm.trans h0_) (by decide), fun h0_ => absurd ((hoff 10 (by kernel_rfl)).symm.trans h0_) (by decide)⟩
     refine steps_cons ?_ ?_
     ·
      rintro b a w' ⟨v267, v271, v274, v278, v281, v285, m3_, m8_, m10_, ha, Q_HO244, Q_HO248, Q_HO252, Q_HO256, Q_HO260, Q_HO264, Q_HO_236001, Q_HO_237001, Q_HO_238001, Q_BK235, Q_BK236, Q_BK237, Q_BK249, Q_HB, Q_HO268, Q_HO272, Q_HO275, Q_HO279, Q_HO282, Q_HO286, Q_X3_, Q_X8_, Q_X10_⟩ hb_ hon hoff
      refine ⟨_, rfl, fun K hK => ?_⟩
      have e55 : a.tmps[55]? = some (.agg #[.int .i64 a1_0, .slice A1_1 l1_1.length c1_1]) := by rw [ha]; exact putSel_on (e := (5, 55, .agg #[.int .i64 a1_0, .slice A1_1 l1_1.length c1_1])) 5 rfl rfl (hon 5 (by kernel_rfl)) rfl
      have e56 : a.tmps[56]? = some (.agg #[.int .i64 a2_0, .slice A2_1 l2_1.length c2_1]) := by rw [ha]; exact putSel_on (e := (6, 56, .agg #[.int .i64 a2_0, .slice A2_1 l2_1.length c2_1])) 6 rfl rfl (hon 6 (by kernel_rfl)) rfl
      replace ha := Aside0.mk ha
      have HO244 := Aside0.mk Q_HO244
      have HO248 := Aside0.mk Q_HO248
      have HO252 := Aside0.mk Q_HO252
      have HO256 := Aside0.mk Q_HO256
      have HO260 := Aside0.mk Q_HO260
      have HO264 := Aside0.mk Q_HO264
      have HO_236001 := Aside0.mk Q_HO_236001
      have HO_237001 := Aside0.mk Q_HO_237001
      have HO_238001 := Aside0.mk Q_HO_238001
      have BK235 := Aside0.mk Q_BK235
      have BK236 := Aside0.mk Q_BK236
      have BK237 := Aside0.mk Q_BK237
      have BK249 := Aside0.mk Q_BK249
      have HB := Aside0.mk Q_HB
      refine Kd.N_lit_step k27 _ 27 ?hg (N' := 57) ?hd (xs := ([(⟨a1_0, l1_1⟩ : S27), (⟨a2_0, l2_1⟩ : S27)] : List (S27))) (inner := [.int .i64 a1_0, .slice A1_1 l1_1.length c1_1, .int .i64 a2_0, .slice A2_1 l2_1.length c2_1]) (ok := (fun k_ => ((P0_1_ k_ ∨ P1_1_ k_ ∨ P2_1_ k_) ∨ w.heap.size ≤ k_) ∧ some k_ ≠ (.slice Ao54 y242.length co54 : Value).ownBlock ∧ some k_ ≠ (.slice Ao66 y250.length co66 : Value).ownBlock ∧ some k_ ≠ (.slice Ao73 y258.length co73 : Value).ownBlock ∧ k_ ≠ gb235 ∧ k_ ≠ gb236 ∧ k_ ≠ gb237 ∧ k_ ≠ gb249)) (okp := (fun k_ => ((P0_1_ k_ ∨ P1_1_ k_ ∨ P2_1_ k_) ∨ w.heap.size ≤ k_) ∧ some k_ ≠ (.slice Ao54 y242.length co54 : Value).ownBlock ∧ some k_ ≠ (.slice Ao66 y250.length co66 : Value).ownBlock ∧ some k_ ≠ (.slice Ao73 y258.length co73 : Value).ownBlock ∧ k_ ≠ gb235 ∧ k_ ≠ gb236 ∧ k_ ≠ gb237 ∧ k_ ≠ gb249)) ?hr ?hp (fun _ hk => hk) ((show ∀ k_, w'.heap.size ≤ k_ → (fun k_ => ((P0_1_ k_ ∨ P1_1_ k_ ∨ P2_1_ k_) ∨ w.heap.size ≤ k_) ∧ some k_ ≠ (.slice Ao54 y242.length co54 : Value).ownBlock ∧ some k_ ≠ (.slice Ao66 y250.length co66 : Value).ownBlock ∧ some k_ ≠ (.slice Ao73 y258.length co73 : Value).ownBlock ∧ k_ ≠ gb235 ∧ k_ ≠ gb236 ∧ k_ ≠ gb237 ∧ k_ ≠ gb249) k_ from fun k_ hk => ⟨(.inr (Nat.le_trans (below_size (gw_ HB)) hk)), Kd.fresh' (Kd.N_lt (Kd.nk HO244)) k_ hk, Kd.fresh' (Kd.N_lt (Kd.nk HO252)) k_ hk, Kd.fresh' (Kd.N_lt (Kd.nk HO260)) k_ hk, Kd.freshB (g := gb235) (bk BK235) k_ hk, Kd.freshB (g := gb236) (bk BK236) k_ hk, Kd.freshB (g := gb237) (bk BK237) k_ hk, Kd.freshB (g := gb249) (bk BK249) k_ hk⟩) _ (Nat.le_refl _)) (Below.refl _ _) (Nat.le_refl _) (by simp) ?_; (case hd => rfl); (case hg => rfl); (case hr => first | (go_simp; done) | (go_simp; rfl)); (case hp => exact (Reps.c2 (show Kd.FK k27 _ _ (⟨a1_0, l1_1⟩ : S27) [.int .i64 a1_0, .slice A1_1 l1_1.length c1_1] from (k27_mkF _ _ (⟨a1_0, l1_1⟩ : S27) (Kd.V_reads' (Kd.V_mono (ok' := (fun k_ => ((P0_1_ k_ ∨ P1_1_ k_ ∨ P2_1_ k_) ∨ w.heap.size ≤ k_) ∧ some k_ ≠ (.slice Ao54 y242.length co54 : Value).ownBlock ∧ some k_ ≠ (.slice Ao66 y250.length co66 : Value).ownBlock ∧ some k_ ≠ (.slice Ao73 y258.length co73 : Value).ownBlock ∧ k_ ≠ gb235 ∧ k_ ≠ gb236 ∧ k_ ≠ gb237 ∧ k_ ≠ gb249)) (HO_237001.out) (fun k_ hk => (by first | exact ⟨hk.1.1.1, ⟨hk.1.1.2.1, ⟨hk.1.2, ⟨hk.2, ⟨hk.1.1.2.2.1, ⟨hk.1.1.2.2.2.1, ⟨hk.1.1.2.2.2.2.1, hk.1.1.2.2.2.2.2⟩⟩⟩⟩⟩⟩⟩ | simp [hk])))).2.1 (Kd.V_F (Kd.V_mono (ok' := (fun k_ => ((P0_1_ k_ ∨ P1_1_ k_ ∨ P2_1_ k_) ∨ w.heap.size ≤ k_) ∧ some k_ ≠ (.slice Ao54 y242.length co54 : Value).ownBlock ∧ some k_ ≠ (.slice Ao66 y250.length co66 : Value).ownBlock ∧ some k_ ≠ (.slice Ao73 y258.length co73 : Value).ownBlock ∧ k_ ≠ gb235 ∧ k_ ≠ gb236 ∧ k_ ≠ gb237 ∧ k_ ≠ gb249)) (HO_237001.out) (fun k_ hk => (by first | exact ⟨hk.1.1.1, ⟨hk.1.1.2.1, ⟨hk.1.2, ⟨hk.2, ⟨hk.1.1.2.2.1, ⟨hk.1.1.2.2.2.1, ⟨hk.1.1.2.2.2.2.1, hk.1.1.2.2.2.2.2⟩⟩⟩⟩⟩⟩⟩ | simp [hk])))))) (Reps.c2 (show Kd.FK k27 _ _ (⟨a2_0, l2_1⟩ : S27) [.int .i64 a2_0, .slice A2_1 l2_1.length c2_1] from (k27_mkF _ _ (⟨a2_0, l2_1⟩ : S27) (Kd.V_reads' (Kd.V_mono (ok' := (fun k_ => ((P0_1_ k_ ∨ P1_1_ k_ ∨ P2_1_ k_) ∨ w.heap.size ≤ k_) ∧ some k_ ≠ (.slice Ao54 y242.length co54 : Value).ownBlock ∧ some k_ ≠ (.slice Ao66 y250.length co66 : Value).ownBlock ∧ some k_ ≠ (.slice Ao73 y258.length co73 : Value).ownBlock ∧ k_ ≠ gb235 ∧ k_ ≠ gb236 ∧ k_ ≠ gb237 ∧ k_ ≠ gb249)) (HO_238001.out) (fun k_ hk => (by first | exact ⟨hk.1.1.1, ⟨hk.1.1.2.1, ⟨hk.1.2, ⟨hk.2, ⟨hk.1.1.2.2.1, ⟨hk.1.1.2.2.2.1, ⟨hk.1.1.2.2.2.2.1, hk.1.1.2.2.2.2.2⟩⟩⟩⟩⟩⟩⟩ | simp [hk])))).2.1 (Kd.V_F (Kd.V_mono (ok' := (fun k_ => ((P0_1_ k_ ∨ P1_1_ k_ ∨ P2_1_ k_) ∨ w.heap.size ≤ k_) ∧ some k_ ≠ (.slice Ao54 y242.length co54 : Value).ownBlock ∧ some k_ ≠ (.slice Ao66 y250.length co66 : Value).ownBlock ∧ some k_ ≠ (.slice Ao73 y258.length co73 : Value).ownBlock ∧ k_ ≠ gb235 ∧ k_ ≠ gb236 ∧ k_ ≠ gb237 ∧ k_ ≠ gb249)) (HO_238001.out) (fun k_ hk => (by first | exact ⟨hk.1.1.1, ⟨hk.1.1.2.1, ⟨hk.1.2, ⟨hk.2, ⟨hk.1.1.2.2.1, ⟨hk.1.1.2.2.2.1, ⟨hk.1.1.2.2.2.2.1, hk.1.1.2.2.2.2.2⟩⟩⟩⟩⟩⟩⟩ | simp [hk])))))) (Reps.none _ _))))
      intro v274 w78 ho79 hb hg_ hnew_
      clear hg_ hnew_
      (first | rw [← Ny273.out] at ho79 | (simp only [Int.reduceToNat] at ho79; rw [← Ny273.out] at ho79))
      have n0_ := Aside0.mk (Kd.V_elder' (Kd.vk HO_236001) (Kd.N_base ho79) hb)
      have n1_ := Aside0.mk (Kd.V_elder' (Kd.vk HO_237001) (Kd.N_base ho79) hb)
      have n2_ := Aside0.mk (Kd.V_elder' (Kd.vk HO_238001) (Kd.N_base ho79) hb)
      have n3_ := Aside0.mk (Kd.N_elder' (Kd.nk HO244) (Kd.N_base ho79) hb)
      have n4_ := Aside0.mk (Kd.V_elder' (Kd.vk HO248) (Kd.N_base ho79) hb)
      have n5_ := Aside0.mk (Kd.N_elder' (Kd.nk HO252) (Kd.N_base ho79) hb)
      have n6_ := Aside0.mk (Kd.V_elder' (Kd.vk HO256) (Kd.N_base ho79) hb)
      have n7_ := Aside0.mk (Kd.N_elder' (Kd.nk HO260) (Kd.N_base ho79) hb)
      have n8_ := Aside0.mk (Kd.V_elder' (Kd.vk HO264) (Kd.N_base ho79) hb)
      have n9_ := Aside0.mk (Kd.N_lower ho79 (below_size (gw_ HB)))
      have n10_ := Aside0.mk (blk_below (g := gb235) (bk BK235) hb)
      have n11_ := Aside0.mk (blk_below (g := gb236) (bk BK236) hb)
      have n12_ := Aside0.mk (blk_below (g := gb237) (bk BK237) hb)
      have n13_ := Aside0.mk (blk_below (g := gb249) (bk BK249) hb)
      have n14_ := Aside0.mk (below_step (gw_ HB) hb)
      have z_HO268 := fun (h0_ : b 2 = true) => (show Kd.N k27 27 w78 w.heap.size (fun k_ => ((P0_1_ k_ ∨ P1_1_ k_ ∨ P2_1_ k_) ∨ w.heap.size ≤ k_) ∧ some k_ ≠ (.slice Ao54 y242.length co54 : Value).ownBlock ∧ some k_ ≠ (.slice Ao66 y250.length co66 : Value).ownBlock ∧ some k_ ≠ (.slice Ao73 y258.length co73 : Value).ownBlock ∧ k_ ≠ gb235 ∧ k_ ≠ gb236 ∧ k_ ≠ gb237 ∧ k_ ≠ gb249) v267 y266 from by first | exact (Kd.N_elder' (by (with_reducible repeat (first | apply Kd.N_alloc | apply Kd.N_drewN | apply Kd.N_drew)); exact (Q_HO268 h0_)) (Kd.N_base ho79) hb) | exact Kd.N_mono (Kd.N_elder' (by (with_reducible repeat (first | apply Kd.N_alloc | apply Kd.N_drewN | apply Kd.N_drew)); exact (Q_HO268 h0_)) (Kd.N_base ho79) hb) (fun _ h_ => by first | trivial | exact h_ | exact h_.1))
      have z_HO272 := fun (h0_ : b 3 = true) => (show Kd.V (Kd.int .i64) 3 w78 w.heap.size (fun k_ => ((P0_1_ k_ ∨ P1_1_ k_ ∨ P2_1_ k_) ∨ w.heap.size ≤ k_) ∧ some k_ ≠ (.slice Ao54 y242.length co54 : Value).ownBlock ∧ some k_ ≠ (.slice Ao66 y250.length co66 : Value).ownBlock ∧ some k_ ≠ (.slice Ao73 y258.length co73 : Value).ownBlock ∧ k_ ≠ gb235 ∧ k_ ≠ gb236 ∧ k_ ≠ gb237 ∧ k_ ≠ gb249) v271 t270 from by first | exact (Kd.V_elder' (by (with_reducible repeat (first | apply Kd.V_alloc | apply Kd.V_drewN | apply Kd.V_drew)); exact (Q_HO272 h0_)) (Kd.N_base ho79) hb) | exact Kd.V_mono (Kd.V_elder' (by (with_reducible repeat (first | apply Kd.V_alloc | apply Kd.V_drewN | apply Kd.V_drew)); exact (Q_HO272 h0_)) (Kd.N_base ho79) hb) (fun _ h_ => by first | trivial | exact h_ | exact h_.1))
      clear HO_236001
      clear HO_237001
      clear HO_238001
      clear HO244
      clear HO248
      clear HO252
      clear HO256
      clear HO260
      clear HO264
      clear BK235
      clear BK236
      clear BK237
      clear BK249
      clear HB
      have HO_236001 := n0_
      have HO_237001 := n1_
      have HO_238001 := n2_
      have HO244 := n3_
      have HO248 := n4_
      have HO252 := n5_
      have HO256 := n6_
      have HO260 := n7_
      have HO264 := n8_
      have HO275 := n9_
      have BK235 := n10_
      have BK236 := n11_
      have BK237 := n12_
      have BK249 := n13_
      have HB := n14_
      clear n0_ n1_ n2_ n3_ n4_ n5_ n6_ n7_ n8_ n9_ n10_ n11_ n12_ n13_ n14_
      clear hb ho79
      refine hK.out _ _ ⟨v267, v271, v274, v278, v281, v285, m3_, m8_, m10_, (by rw [ha.out]; exact putSel_upk 7 hb_ rfl rfl rfl), (by (with_reducible repeat (first | apply Kd.N_alloc | apply Kd.N_drewN | apply Kd.N_drew)); exact Kd.N_mono HO244.out (fun _ hk => (by first | exact ⟨hk.1.1.1.1, ⟨hk.1.1.2, ⟨hk.1.2, ⟨hk.2, ⟨hk.1.1.1.2.1, ⟨hk.1.1.1.2.2.1, ⟨hk.1.1.1.2.2.2.1, hk.1.1.1.2.2.2.2⟩⟩⟩⟩⟩⟩⟩ | simp [hk]))), (by (with_reducible repeat (first | apply Kd.V_alloc | apply Kd.V_drewN | apply Kd.V_drew)); exact Kd.V_mono HO248.out (fun _ hk => (by first | exact ⟨hk.1.1.1.1, ⟨hk.1.1.1.2.1, ⟨hk.1.1.2, ⟨hk.1.2, ⟨hk.2, ⟨hk.1.1.1.2.2.1, ⟨hk.1.1.1.2.2.2.1, ⟨hk.1.1.1.2.2.2.2.1, hk.1.1.1.2.2.2.2.2⟩⟩⟩⟩⟩⟩⟩⟩ | simp [hk]))), (by (with_reducible repeat (first | apply Kd.N_alloc | apply Kd.N_drewN | apply Kd.N_drew)); exact Kd.N_mono HO252.out (fun _ hk => (by first | exact ⟨hk.1.1.1, ⟨hk.1.1.2.1, ⟨hk.1.2, ⟨hk.2, ⟨hk.1.1.2.2.1, ⟨hk.1.1.2.2.2.1, ⟨hk.1.1.2.2.2.2.1, hk.1.1.2.2.2.2.2⟩⟩⟩⟩⟩⟩⟩ | simp [hk]))), (by (with_reducible repeat (first | apply Kd.V_alloc | apply Kd.V_drewN | apply Kd.V_drew)); exact Kd.V_mono HO256.out (fun _ hk => (by first | exact ⟨hk.1.1.1, ⟨hk.1.1.2.1, ⟨hk.1.1.2.2.1, ⟨hk.1.2, ⟨hk.2, ⟨hk.1.1.2.2.2.1, ⟨hk.1.1.2.2.2.2.1, ⟨hk.1.1.2.2.2.2.2.1, hk.1.1.2.2.2.2.2.2⟩⟩⟩⟩⟩⟩⟩⟩ | simp [hk]))), (by (with_reducible repeat (first | apply Kd.N_alloc | apply Kd.N_drewN | apply Kd.N_drew)); exact Kd.N_mono HO260.out (fun _ hk => (by first | exact ⟨hk.1.1, ⟨hk.1.2.1, ⟨hk.1.2.2.1, ⟨hk.2, ⟨hk.1.2.2.2.1, ⟨hk.1.2.2.2.2.1, ⟨hk.1.2.2.2.2.2.1, hk.1.2.2.2.2.2.2⟩⟩⟩⟩⟩⟩⟩ | simp [hk]))), (by (with_reducible repeat (first | apply Kd.V_alloc | apply Kd.V_drewN | apply Kd.V_drew)); exact Kd.V_mono HO264.out (fun _ hk => (by first | exact ⟨hk.1.1, ⟨hk.1.2.1, ⟨hk.1.2.2.1, ⟨hk.1.2.2.2.1, ⟨hk.2, ⟨hk.1.2.2.2.2.1, ⟨hk.1.2.2.2.2.2.1, ⟨hk.1.2.2.2.2.2.2.1, hk.1.2.2.2.2.2.2.2⟩⟩⟩⟩⟩⟩⟩⟩ | simp [hk]))), (by (with_reducible repeat (first | apply Kd.V_alloc | apply Kd.V_drewN | apply Kd.V_drew)); exact Kd.V_mono HO_236001.out (fun _ hk => (by first | exact ⟨hk.1.1.1.1, ⟨hk.1.1.1.2.1, ⟨hk.1.1.2, ⟨hk.1.2, ⟨hk.2, ⟨hk.1.1.1.2.2.1, ⟨hk.1.1.1.2.2.2.1, ⟨hk.1.1.1.2.2.2.2.1, hk.1.1.1.2.2.2.2.2⟩⟩⟩⟩⟩⟩⟩⟩ | simp [hk]))), (by (with_reducible repeat (first | apply Kd.V_alloc | apply Kd.V_drewN | apply Kd.V_drew)); exact Kd.V_mono HO_237001.out (fun _ hk => (by first | exact ⟨hk.1.1.1.1, ⟨hk.1.1.1.2.1, ⟨hk.1.1.2, ⟨hk.1.2, ⟨hk.2, ⟨hk.1.1.1.2.2.1, ⟨hk.1.1.1.2.2.2.1, ⟨hk.1.1.1.2.2.2.2.1, hk.1.1.1.2.2.2.2.2⟩⟩⟩⟩⟩⟩⟩⟩ | simp [hk]))), (by (with_reducible repeat (first | apply Kd.V_alloc | apply Kd.V_drewN | apply Kd.V_drew)); exact Kd.V_mono HO_238001.out (fun _ hk => (by first | exact ⟨hk.1.1.1.1, ⟨hk.1.1.1.2.1, ⟨hk.1.1.2, ⟨hk.1.2, ⟨hk.2, ⟨hk.1.1.1.2.2.1, ⟨hk.1.1.1.2.2.2.1, ⟨hk.1.1.1.2.2.2.2.1, hk.1.1.1.2.2.2.2.2⟩⟩⟩⟩⟩⟩⟩⟩ | simp [hk]))), (bk BK235), (bk BK236), (bk BK237), (bk BK249), (gw_ HB), z_HO268, z_HO272, fun _ => (by first | exact Kd.nk HO275 | exact Kd.N_mono (Kd.nk HO275) (fun _ hk => (by simp [hk]))), fun h0_ => absurd ((hoff 8 (by kernel_rfl)).symm.trans h0_) (by decide), fun h0_ => absurd ((hoff 9 (by kernel_rfl)).symm.trans h0_) (by decide), fun h0_ => absurd ((hoff 10 (by kernel_rfl)).symm.trans h0_) (by decide), Q_X3_, fun h0_ => absurd ((hoff 8 (by kernel_rfl)).symm.trans h0_) (by decide), fun h0_ => absurd ((hoff 10 (by kernel_rfl)).symm.trans h0_) (by decide)⟩
     refine steps_cons ?_ ?_
     ·
      rintro b a w' ⟨v267, v271, v274, v278, v281, v285, m3_, m8_, m10_, ha, Q_HO244, Q_HO248, Q_HO252, Q_HO256, Q_HO260, Q_HO264, Q_HO_236001, Q_HO_237001, Q_HO_238001, Q_BK235, Q_BK236, Q_BK237, Q_BK249, Q_HB, Q_HO268, Q_HO272, Q_HO275, Q_HO279, Q_HO282, Q_HO286, Q_X3_, Q_X8_, Q_X10_⟩ hb_ hon hoff
      refine ⟨_, rfl, fun K hK => ?_⟩
      have e57 : a.tmps[57]? = some (v274) := by rw [ha]; exact putSel_on (e := (7, 57, v274)) 7 rfl rfl (hon 7 (by kernel_rfl)) rfl
      replace ha := Aside0.mk ha
      have HO244 := Aside0.mk Q_HO244
      have HO248 := Aside0.mk Q_HO248
      have HO252 := Aside0.mk Q_HO252
      have HO256 := Aside0.mk Q_HO256
      have HO260 := Aside0.mk Q_HO260
      have HO264 := Aside0.mk Q_HO264
      have HO_236001 := Aside0.mk Q_HO_236001
      have HO_237001 := Aside0.mk Q_HO_237001
      have HO_238001 := Aside0.mk Q_HO_238001
      have BK235 := Aside0.mk Q_BK235
      have BK236 := Aside0.mk Q_BK236
      have BK237 := Aside0.mk Q_BK237
      have BK249 := Aside0.mk Q_BK249
      have HB := Aside0.mk Q_HB
      have HO268 := Aside0.mk (Q_HO268 (hon 2 (by kernel_rfl)))
      have HO272 := Aside0.mk (Q_HO272 (hon 3 (by kernel_rfl)))
      have HO275 := Aside0.mk (Q_HO275 (hon 7 (by kernel_rfl)))
      obtain ⟨Ao85, co85, eo85⟩ := Kd.N_slice HO275.out
      (first | subst eo85 | (injection eo85 with f1_ f2_ f3_; have f4_ := f1_.symm; have f5_ := f3_.symm; clear f1_ f2_ f3_; subst f4_; subst f5_))
      refine goes_ Try.func11 (by kernel_rfl) rfl #[.slice Ao85 y273.length co85] (by rfl) rfl rfl (by first | (simp only [List.map_toArray, List.map_cons, List.map_nil, Act.eval, Array.getD_eq_getD_getElem?, Option.getD_some, e57]; done) | (simp only [List.map_toArray, List.map_cons, List.map_nil, Act.eval, Array.getD_eq_getD_getElem?, Option.getD_some, e57]; rfl)) ?_
      with_reducible refine (attr_MergeV.calls kj4 _ _ y273 t276 t277 _ ?side1 ?side2 A43.out).mono ?_
      (case side1 => repeat (first | exact (Kd.N_reads' HO275.out).2.2 | (with_reducible refine Kd.C_alloc ?_ _) | (with_reducible refine Kd.C_drewN ?_ _) | (with_reducible refine Kd.C_drew ?_)))
      (case side2 => exact (Kd.N_reads' HO275.out).2.1)
      rintro e w86 ⟨v278, rfl, ho0, hb⟩
      refine ⟨_, rfl, ?_⟩
      have n0_ := Aside0.mk (Kd.V_below (Kd.vk HO_236001) hb)
      have n1_ := Aside0.mk (Kd.V_below (Kd.vk HO_237001) hb)
      have n2_ := Aside0.mk (Kd.V_below (Kd.vk HO_238001) hb)
      have n3_ := Aside0.mk (Kd.N_below (Kd.nk HO244) hb)
      have n4_ := Aside0.mk (Kd.V_below (Kd.vk HO248) hb)
      have n5_ := Aside0.mk (Kd.N_below (Kd.nk HO252) hb)
      have n6_ := Aside0.mk (Kd.V_below (Kd.vk HO256) hb)
      have n7_ := Aside0.mk (Kd.N_below (Kd.nk HO260) hb)
      have n8_ := Aside0.mk (Kd.V_below (Kd.vk HO264) hb)
      have n9_ := Aside0.mk (Kd.N_below (Kd.nk HO268) hb)
      have n10_ := Aside0.mk (Kd.V_below (Kd.vk HO272) hb)
      have n11_ := Aside0.mk (Kd.N_below (Kd.nk HO275) hb)
      have n12_ := Aside0.mk (Kd.V_lower (Kd.V_mono (ok' := fun k_ => ((P0_1_ k_ ∨ P1_1_ k_ ∨ P2_1_ k_) ∨ w.heap.size ≤ k_) ∧ some k_ ≠ (.slice Ao54 y242.length co54 : Value).ownBlock ∧ some k_ ≠ (.slice Ao66 y250.length co66 : Value).ownBlock ∧ some k_ ≠ (.slice Ao73 y258.length co73 : Value).ownBlock ∧ some k_ ≠ (v267 : Value).ownBlock ∧ some k_ ≠ (.slice Ao85 y273.length co85 : Value).ownBlock ∧ k_ ≠ gb235 ∧ k_ ≠ gb236 ∧ k_ ≠ gb237 ∧ k_ ≠ gb249) ho0 (fun k_ hk_ => ⟨(.inr (Nat.le_trans (below_size (gw_ HB)) hk_)), (Kd.fresh' (Kd.N_lt (Kd.nk HO244)) k_ hk_), (Kd.fresh' (Kd.N_lt (Kd.nk HO252)) k_ hk_), (Kd.fresh' (Kd.N_lt (Kd.nk HO260)) k_ hk_), (Kd.fresh' (Kd.N_lt (Kd.nk HO268)) k_ hk_), (Kd.fresh' (Kd.N_lt (Kd.nk HO275)) k_ hk_), (Kd.freshB (g := gb235) (bk BK235) k_ hk_), (Kd.freshB (g := gb236) (bk BK236) k_ hk_), (Kd.freshB (g := gb237) (bk BK237) k_ hk_), (Kd.freshB (g := gb249) (bk BK249) k_ hk_)⟩)) (below_size (gw_ HB)))
      have n13_ := Aside0.mk (blk_below (g := gb235) (bk BK235) hb)
      have n14_ := Aside0.mk (blk_below (g := gb236) (bk BK236) hb)
      have n15_ := Aside0.mk (blk_below (g := gb237) (bk BK237) hb)
      have n16_ := Aside0.mk (blk_below (g := gb249) (bk BK249) hb)
      have n17_ := Aside0.mk (below_step (gw_ HB) hb)
      clear HO_236001
      clear HO_237001
      clear HO_238001
      clear HO244
      clear HO248
      clear HO252
      clear HO256
      clear HO260
      clear HO264
      clear HO268
      clear HO272
      clear HO275
      clear BK235
      clear BK236
      clear BK237
      clear BK249
      clear HB
      have HO_236001 := n0_
      have HO_237001 := n1_
      have HO_238001 := n2_
      have HO244 := n3_
      have HO248 := n4_
      have HO252 := n5_
      have HO256 := n6_
      have HO260 := n7_
      have HO264 := n8_
      have HO268 := n9_
      have HO272 := n10_
      have HO275 := n11_
      have HO279 := n12_
      have BK235 := n13_
      have BK236 := n14_
      have BK237 := n15_
      have BK249 := n16_
      have HB := n17_
      clear n0_ n1_ n2_ n3_ n4_ n5_ n6_ n7_ n8_ n9_ n10_ n11_ n12_ n13_ n14_ n15_ n16_ n17_
      (try clear hb)
      (try clear hb2)
      (try clear hk)
      (try clear hi)
      (try clear ho0)
      refine hK.out _ _ ⟨v267, v271, .slice Ao85 y273.length co85, v278, v281, v285, m3_, (.agg #[.int .i64 t276, v278]), m10_, (by rw [ha.out]; exact putSel_upk 8 hb_ rfl rfl rfl), (Kd.nk HO244), (Kd.vk HO248), (Kd.nk HO252), (Kd.vk HO256), (Kd.nk HO260), (Kd.vk HO264), (Kd.vk HO_236001), (Kd.vk HO_237001), (Kd.vk HO_238001), (bk BK235), (bk BK236), (bk BK237), (bk BK249), (gw_ HB), fun _ => (by first | exact Kd.nk HO268 | exact Kd.N_mono (Kd.nk HO268) (fun _ hk => (by simp [hk]))), fun _ => (by first | exact Kd.vk HO272 | exact Kd.V_mono (Kd.vk HO272) (fun _ hk => (by simp [hk]))), fun _ => (by first | exact Kd.nk HO275 | exact Kd.N_mono (Kd.nk HO275) (fun _ hk => (by simp [hk]))), fun _ => (by first | exact Kd.vk HO279 | exact Kd.V_mono (Kd.vk HO279) (fun _ hk => (by simp [hk]))), fun h0_ => absurd ((hoff 9 (by kernel_rfl)).symm.trans h0_) (by decide), fun h0_ => absurd ((hoff 10 (by kernel_rfl)).symm.trans h0_) (by decide), Q_X3_, fun _ => rfl, fun h0_ => absurd ((hoff 10 (by kernel_rfl)).symm.trans h0_) (by decide)⟩
     refine steps_cons ?_ ?_
     ·
      rintro b a w' ⟨v267, v271, v274, v278, v281, v285, m3_, m8_, m10_, ha, Q_HO244, Q_HO248, Q_HO252, Q_HO256, Q_HO260, Q_HO264, Q_HO_236001, Q_HO_237001, Q_HO_238001, Q_BK235, Q_BK236, Q_BK237, Q_BK249, Q_HB, Q_HO268, Q_HO272, Q_HO275, Q_HO279, Q_HO282, Q_HO286, Q_X3_, Q_X8_, Q_X10_⟩ hb_ hon hoff
      refine ⟨_, rfl, fun K hK => ?_⟩
      have e54 : a.tmps[54]? = some (.agg #[.int .i64 a0_0, .slice A0_1 l0_1.length c0_1]) := by rw [ha]; exact putSel_on (e := (4, 54, .agg #[.int .i64 a0_0, .slice A0_1 l0_1.length c0_1])) 4 rfl rfl (hon 4 (by kernel_rfl)) rfl
      have e58 : a.tmps[58]? = some (m8_) := by rw [ha]; exact putSel_on (e := (8, 58, m8_)) 8 rfl rfl (hon 8 (by kernel_rfl)) rfl
      rw [Q_X8_ (hon 8 (by kernel_rfl))] at e58
      replace ha := Aside0.mk ha
      have HO244 := Aside0.mk Q_HO244
      have HO248 := Aside0.mk Q_HO248
      have HO252 := Aside0.mk Q_HO252
      have HO256 := Aside0.mk Q_HO256
      have HO260 := Aside0.mk Q_HO260
      have HO264 := Aside0.mk Q_HO264
      have HO_236001 := Aside0.mk Q_HO_236001
      have HO_237001 := Aside0.mk Q_HO_237001
      have HO_238001 := Aside0.mk Q_HO_238001
      have BK235 := Aside0.mk Q_BK235
      have BK236 := Aside0.mk Q_BK236
      have BK237 := Aside0.mk Q_BK237
      have BK249 := Aside0.mk Q_BK249
      have HB := Aside0.mk Q_HB
      have HO268 := Aside0.mk (Q_HO268 (hon 2 (by kernel_rfl)))
      have HO272 := Aside0.mk (Q_HO272 (hon 3 (by kernel_rfl)))
      have HO275 := Aside0.mk (Q_HO275 (hon 7 (by kernel_rfl)))
      have HO279 := Aside0.mk (Q_HO279 (hon 8 (by kernel_rfl)))
      obtain ⟨Ao87, co87, eo87⟩ := Kd.V_slice HO279.out
      (first | subst eo87 | (injection eo87 with f1_ f2_ f3_; have f4_ := f1_.symm; have f5_ := f3_.symm; clear f1_ f2_ f3_; subst f4_; subst f5_))
      refine Kd.N_lit_step k27 _ 27 ?hg (N' := 59) ?hd (xs := ([(⟨a0_0, l0_1⟩ : S27), (⟨t276, t277⟩ : S27)] : List (S27))) (inner := [.int .i64 a0_0, .slice A0_1 l0_1.length c0_1, .int .i64 t276, .slice Ao87 t277.length co87]) (ok := (fun k_ => ((P0_1_ k_ ∨ P1_1_ k_ ∨ P2_1_ k_) ∨ w.heap.size ≤ k_) ∧ some k_ ≠ (.slice Ao54 y242.length co54 : Value).ownBlock ∧ some k_ ≠ (.slice Ao66 y250.length co66 : Value).ownBlock ∧ some k_ ≠ (.slice Ao73 y258.length co73 : Value).ownBlock ∧ k_ ≠ gb235 ∧ k_ ≠ gb236 ∧ k_ ≠ gb237 ∧ k_ ≠ gb249)) (okp := (fun k_ => ((P0_1_ k_ ∨ P1_1_ k_ ∨ P2_1_ k_) ∨ w.heap.size ≤ k_) ∧ some k_ ≠ (.slice Ao54 y242.length co54 : Value).ownBlock ∧ some k_ ≠ (.slice Ao66 y250.length co66 : Value).ownBlock ∧ some k_ ≠ (.slice Ao73 y258.length co73 : Value).ownBlock ∧ k_ ≠ gb235 ∧ k_ ≠ gb236 ∧ k_ ≠ gb237 ∧ k_ ≠ gb249)) ?hr ?hp (fun _ hk => hk) ((show ∀ k_, w'.heap.size ≤ k_ → (fun k_ => ((P0_1_ k_ ∨ P1_1_ k_ ∨ P2_1_ k_) ∨ w.heap.size ≤ k_) ∧ some k_ ≠ (.slice Ao54 y242.length co54 : Value).ownBlock ∧ some k_ ≠ (.slice Ao66 y250.length co66 : Value).ownBlock ∧ some k_ ≠ (.slice Ao73 y258.length co73 : Value).ownBlock ∧ k_ ≠ gb235 ∧ k_ ≠ gb236 ∧ k_ ≠ gb237 ∧ k_ ≠ gb249) k_ from fun k_ hk => ⟨(.inr (Nat.le_trans (below_size (gw_ HB)) hk)), Kd.fresh' (Kd.N_lt (Kd.nk HO244)) k_ hk, Kd.fresh' (Kd.N_lt (Kd.nk HO252)) k_ hk, Kd.fresh' (Kd.N_lt (Kd.nk HO260)) k_ hk, Kd.freshB (g := gb235) (bk BK235) k_ hk, Kd.freshB (g := gb236) (bk BK236) k_ hk, Kd.freshB (g := gb237) (bk BK237) k_ hk, Kd.freshB (g := gb249) (bk BK249) k_ hk⟩) _ (Nat.le_refl _)) (Below.refl _ _) (Nat.le_refl _) (by simp) ?_; (case hd => rfl); (case hg => rfl); (case hr => first | (go_simp; done) | (go_simp; rfl)); (case hp => exact (Reps.c2 (show Kd.FK k27 _ _ (⟨a0_0, l0_1⟩ : S27) [.int .i64 a0_0, .slice A0_1 l0_1.length c0_1] from (k27_mkF _ _ (⟨a0_0, l0_1⟩ : S27) (Kd.V_reads' (Kd.V_mono (ok' := (fun k_ => ((P0_1_ k_ ∨ P1_1_ k_ ∨ P2_1_ k_) ∨ w.heap.size ≤ k_) ∧ some k_ ≠ (.slice Ao54 y242.length co54 : Value).ownBlock ∧ some k_ ≠ (.slice Ao66 y250.length co66 : Value).ownBlock ∧ some k_ ≠ (.slice Ao73 y258.length co73 : Value).ownBlock ∧ k_ ≠ gb235 ∧ k_ ≠ gb236 ∧ k_ ≠ gb237 ∧ k_ ≠ gb249)) (HO_236001.out) (fun k_ hk => (by first | exact ⟨hk.1, ⟨hk.2.1, ⟨hk.2.2.1, ⟨hk.2.2.2.1, ⟨hk.2.2.2.2.1, ⟨hk.2.2.2.2.2.1, ⟨hk.2.2.2.2.2.2.1, ⟨hk.2.2.2.2.2.2.2.1, ⟨hk.2.2.2.2.2.2.2.2.1, hk.2.2.2.2.2.2.2.2.2⟩⟩⟩⟩⟩⟩⟩⟩⟩ | simp [hk])))).2.1 (Kd.V_F (Kd.V_mono (ok' := (fun k_ => ((P0_1_ k_ ∨ P1_1_ k_ ∨ P2_1_ k_) ∨ w.heap.size ≤ k_) ∧ some k_ ≠ (.slice Ao54 y242.length co54 : Value).ownBlock ∧ some k_ ≠ (.slice Ao66 y250.length co66 : Value).ownBlock ∧ some k_ ≠ (.slice Ao73 y258.length co73 : Value).ownBlock ∧ k_ ≠ gb235 ∧ k_ ≠ gb236 ∧ k_ ≠ gb237 ∧ k_ ≠ gb249)) (HO_236001.out) (fun k_ hk => (by first | exact ⟨hk.1, ⟨hk.2.1, ⟨hk.2.2.1, ⟨hk.2.2.2.1, ⟨hk.2.2.2.2.1, ⟨hk.2.2.2.2.2.1, ⟨hk.2.2.2.2.2.2.1, ⟨hk.2.2.2.2.2.2.2.1, ⟨hk.2.2.2.2.2.2.2.2.1, hk.2.2.2.2.2.2.2.2.2⟩⟩⟩⟩⟩⟩⟩⟩⟩ | simp [hk])))))) (Reps.c2 (show Kd.FK k27 _ _ (⟨t276, t277⟩ : S27) [.int .i64 t276, .slice Ao87 t277.length co87] from (k27_mkF _ _ (⟨t276, t277⟩ : S27) (Kd.V_reads' (Kd.V_mono (ok' := (fun k_ => ((P0_1_ k_ ∨ P1_1_ k_ ∨ P2_1_ k_) ∨ w.heap.size ≤ k_) ∧ some k_ ≠ (.slice Ao54 y242.length co54 : Value).ownBlock ∧ some k_ ≠ (.slice Ao66 y250.length co66 : Value).ownBlock ∧ some k_ ≠ (.slice Ao73 y258.length co73 : Value).ownBlock ∧ k_ ≠ gb235 ∧ k_ ≠ gb236 ∧ k_ ≠ gb237 ∧ k_ ≠ gb249)) (HO279.out) (fun k_ hk => (by first | exact ⟨hk.1, ⟨hk.2.1, ⟨hk.2.2.1, ⟨hk.2.2.2.1, ⟨hk.2.2.2.2.1, ⟨hk.2.2.2.2.2.1, ⟨hk.2.2.2.2.2.2.1, ⟨hk.2.2.2.2.2.2.2.1, ⟨hk.2.2.2.2.2.2.2.2.1, hk.2.2.2.2.2.2.2.2.2⟩⟩⟩⟩⟩⟩⟩⟩⟩ | simp [hk])))).2.1 (Kd.V_F (Kd.V_mono (ok' := (fun k_ => ((P0_1_ k_ ∨ P1_1_ k_ ∨ P2_1_ k_) ∨ w.heap.size ≤ k_) ∧ some k_ ≠ (.slice Ao54 y242.length co54 : Value).ownBlock ∧ some k_ ≠ (.slice Ao66 y250.length co66 : Value).ownBlock ∧ some k_ ≠ (.slice Ao73 y258.length co73 : Value).ownBlock ∧ k_ ≠ gb235 ∧ k_ ≠ gb236 ∧ k_ ≠ gb237 ∧ k_ ≠ gb249)) (HO279.out) (fun k_ hk => (by first | exact ⟨hk.1, ⟨hk.2.1, ⟨hk.2.2.1, ⟨hk.2.2.2.1, ⟨hk.2.2.2.2.1, ⟨hk.2.2.2.2.2.1, ⟨hk.2.2.2.2.2.2.1, ⟨hk.2.2.2.2.2.2.2.1, ⟨hk.2.2.2.2.2.2.2.2.1, hk.2.2.2.2.2.2.2.2.2⟩⟩⟩⟩⟩⟩⟩⟩⟩ | simp [hk])))))) (Reps.none _ _))))
      intro v281 w88 ho89 hb hg_ hnew_
      clear hg_ hnew_
      (first | rw [← Ny280.out] at ho89 | (simp only [Int.reduceToNat] at ho89; rw [← Ny280.out] at ho89))
      have n0_ := Aside0.mk (Kd.V_elder' (Kd.vk HO_236001) (Kd.N_base ho89) hb)
      have n1_ := Aside0.mk (Kd.V_elder' (Kd.vk HO_237001) (Kd.N_base ho89) hb)
      have n2_ := Aside0.mk (Kd.V_elder' (Kd.vk HO_238001) (Kd.N_base ho89) hb)
      have n3_ := Aside0.mk (Kd.N_elder' (Kd.nk HO244) (Kd.N_base ho89) hb)
      have n4_ := Aside0.mk (Kd.V_elder' (Kd.vk HO248) (Kd.N_base ho89) hb)
      have n5_ := Aside0.mk (Kd.N_elder' (Kd.nk HO252) (Kd.N_base ho89) hb)
      have n6_ := Aside0.mk (Kd.V_elder' (Kd.vk HO256) (Kd.N_base ho89) hb)
      have n7_ := Aside0.mk (Kd.N_elder' (Kd.nk HO260) (Kd.N_base ho89) hb)
      have n8_ := Aside0.mk (Kd.V_elder' (Kd.vk HO264) (Kd.N_base ho89) hb)
      have n9_ := Aside0.mk (Kd.N_elder' (Kd.nk HO268) (Kd.N_base ho89) hb)
      have n10_ := Aside0.mk (Kd.V_elder' (Kd.vk HO272) (Kd.N_base ho89) hb)
      have n11_ := Aside0.mk (Kd.N_elder' (Kd.nk HO275) (Kd.N_base ho89) hb)
      have n12_ := Aside0.mk (Kd.V_elder' (Kd.vk HO279) (Kd.N_base ho89) hb)
      have n13_ := Aside0.mk (Kd.N_lower ho89 (below_size (gw_ HB)))
      have n14_ := Aside0.mk (blk_below (g := gb235) (bk BK235) hb)
      have n15_ := Aside0.mk (blk_below (g := gb236) (bk BK236) hb)
      have n16_ := Aside0.mk (blk_below (g := gb237) (bk BK237) hb)
      have n17_ := Aside0.mk (blk_below (g := gb249) (bk BK249) hb)
      have n18_ := Aside0.mk (below_step (gw_ HB) hb)
      clear HO_236001
      clear HO_237001
      clear HO_238001
      clear HO244
      clear HO248
      clear HO252
      clear HO256
      clear HO260
      clear HO264
      clear HO268
      clear HO272
      clear HO275
      clear HO279
      clear BK235
      clear BK236
      clear BK237
      clear BK249
      clear HB
      have HO_236001 := n0_
      have HO_237001 := n1_
      have HO_238001 := n2_
      have HO244 := n3_
      have HO248 := n4_
      have HO252 := n5_
      have HO256 := n6_
      have HO260 := n7_
      have HO264 := n8_
      have HO268 := n9_
      have HO272 := n10_
      have HO275 := n11_
      have HO279 := n12_
      have HO282 := n13_
      have BK235 := n14_
      have BK236 := n15_
      have BK237 := n16_
      have BK249 := n17_
      have HB := n18_
      clear n0_ n1_ n2_ n3_ n4_ n5_ n6_ n7_ n8_ n9_ n10_ n11_ n12_ n13_ n14_ n15_ n16_ n17_ n18_
      clear hb ho89
      refine hK.out _ _ ⟨v267, v271, v274, .slice Ao87 t277.length co87, v281, v285, m3_, m8_, m10_, (by rw [ha.out]; exact putSel_upk 9 hb_ rfl rfl rfl), (by (with_reducible repeat (first | apply Kd.N_alloc | apply Kd.N_drewN | apply Kd.N_drew)); exact Kd.N_mono HO244.out (fun _ hk => (by first | exact ⟨hk.1.1, ⟨hk.1.2.1, ⟨hk.1.2.2.1, ⟨hk.1.2.2.2.1, ⟨hk.1.2.2.2.2.1, ⟨hk.2, ⟨hk.1.2.2.2.2.2.1, ⟨hk.1.2.2.2.2.2.2.1, ⟨hk.1.2.2.2.2.2.2.2.1, hk.1.2.2.2.2.2.2.2.2⟩⟩⟩⟩⟩⟩⟩⟩⟩ | simp [hk]))), (by (with_reducible repeat (first | apply Kd.V_alloc | apply Kd.V_drewN | apply Kd.V_drew)); exact Kd.V_mono HO248.out (fun _ hk => (by first | exact ⟨hk.1.1, ⟨hk.1.2.1, ⟨hk.1.2.2.1, ⟨hk.1.2.2.2.1, ⟨hk.1.2.2.2.2.1, ⟨hk.1.2.2.2.2.2.1, ⟨hk.2, ⟨hk.1.2.2.2.2.2.2.1, ⟨hk.1.2.2.2.2.2.2.2.1, ⟨hk.1.2.2.2.2.2.2.2.2.1, hk.1.2.2.2.2.2.2.2.2.2⟩⟩⟩⟩⟩⟩⟩⟩⟩⟩ | simp [hk]))), (by (with_reducible repeat (first | apply Kd.N_alloc | apply Kd.N_drewN | apply Kd.N_drew)); exact Kd.N_mono HO252.out (fun _ hk => (by first | exact ⟨hk.1.1, ⟨hk.1.2.1, ⟨hk.1.2.2.1, ⟨hk.1.2.2.2.1, ⟨hk.1.2.2.2.2.1, ⟨hk.2, ⟨hk.1.2.2.2.2.2.1, ⟨hk.1.2.2.2.2.2.2.1, ⟨hk.1.2.2.2.2.2.2.2.1, hk.1.2.2.2.2.2.2.2.2⟩⟩⟩⟩⟩⟩⟩⟩⟩ | simp [hk]))), (by (with_reducible repeat (first | apply Kd.V_alloc | apply Kd.V_drewN | apply Kd.V_drew)); exact Kd.V_mono HO256.out (fun _ hk => (by first | exact ⟨hk.1.1, ⟨hk.1.2.1, ⟨hk.1.2.2.1, ⟨hk.1.2.2.2.1, ⟨hk.1.2.2.2.2.1, ⟨hk.1.2.2.2.2.2.1, ⟨hk.2, ⟨hk.1.2.2.2.2.2.2.1, ⟨hk.1.2.2.2.2.2.2.2.1, ⟨hk.1.2.2.2.2.2.2.2.2.1, hk.1.2.2.2.2.2.2.2.2.2⟩⟩⟩⟩⟩⟩⟩⟩⟩⟩ | simp [hk]))), (by (with_reducible repeat (first | apply Kd.N_alloc | apply Kd.N_drewN | apply Kd.N_drew)); exact Kd.N_mono HO260.out (fun _ hk => (by first | exact ⟨hk.1.1, ⟨hk.1.2.1, ⟨hk.1.2.2.1, ⟨hk.1.2.2.2.1, ⟨hk.1.2.2.2.2.1, ⟨hk.2, ⟨hk.1.2.2.2.2.2.1, ⟨hk.1.2.2.2.2.2.2.1, ⟨hk.1.2.2.2.2.2.2.2.1, hk.1.2.2.2.2.2.2.2.2⟩⟩⟩⟩⟩⟩⟩⟩⟩ | simp [hk]))), (by (with_reducible repeat (first | apply Kd.V_alloc | apply Kd.V_drewN | apply Kd.V_drew)); exact Kd.V_mono HO264.out (fun _ hk => (by first | exact ⟨hk.1.1, ⟨hk.1.2.1, ⟨hk.1.2.2.1, ⟨hk.1.2.2.2.1, ⟨hk.1.2.2.2.2.1, ⟨hk.1.2.2.2.2.2.1, ⟨hk.2, ⟨hk.1.2.2.2.2.2.2.1, ⟨hk.1.2.2.2.2.2.2.2.1, ⟨hk.1.2.2.2.2.2.2.2.2.1, hk.1.2.2.2.2.2.2.2.2.2⟩⟩⟩⟩⟩⟩⟩⟩⟩⟩ | simp [hk]))), (by (with_reducible repeat (first | apply Kd.V_alloc | apply Kd.V_drewN | apply Kd.V_drew)); exact Kd.V_mono HO_236001.out (fun _ hk => (by first | exact ⟨hk.1.1, ⟨hk.1.2.1, ⟨hk.1.2.2.1, ⟨hk.1.2.2.2.1, ⟨hk.1.2.2.2.2.1, ⟨hk.1.2.2.2.2.2.1, ⟨hk.2, ⟨hk.1.2.2.2.2.2.2.1, ⟨hk.1.2.2.2.2.2.2.2.1, ⟨hk.1.2.2.2.2.2.2.2.2.1, hk.1.2.2.2.2.2.2.2.2.2⟩⟩⟩⟩⟩⟩⟩⟩⟩⟩ | simp [hk]))), (by (with_reducible repeat (first | apply Kd.V_alloc | apply Kd.V_drewN | apply Kd.V_drew)); exact Kd.V_mono HO_237001.out (fun _ hk => (by first | exact ⟨hk.1.1, ⟨hk.1.2.1, ⟨hk.1.2.2.1, ⟨hk.1.2.2.2.1, ⟨hk.1.2.2.2.2.1, ⟨hk.1.2.2.2.2.2.1, ⟨hk.2, ⟨hk.1.2.2.2.2.2.2.1, ⟨hk.1.2.2.2.2.2.2.2.1, ⟨hk.1.2.2.2.2.2.2.2.2.1, hk.1.2.2.2.2.2.2.2.2.2⟩⟩⟩⟩⟩⟩⟩⟩⟩⟩ | simp [hk]))), (by (with_reducible repeat (first | apply Kd.V_alloc | apply Kd.V_drewN | apply Kd.V_drew)); exact Kd.V_mono HO_238001.out (fun _ hk => (by first | exact ⟨hk.1.1, ⟨hk.1.2.1, ⟨hk.1.2.2.1, ⟨hk.1.2.2.2.1, ⟨hk.1.2.2.2.2.1, ⟨hk.1.2.2.2.2.2.1, ⟨hk.2, ⟨hk.1.2.2.2.2.2.2.1, ⟨hk.1.2.2.2.2.2.2.2.1, ⟨hk.1.2.2.2.2.2.2.2.2.1, hk.1.2.2.2.2.2.2.2.2.2⟩⟩⟩⟩⟩⟩⟩⟩⟩⟩ | simp [hk]))), (bk BK235), (bk BK236), (bk BK237), (bk BK249), (gw_ HB), fun _ => (by (with_reducible repeat (first | apply Kd.N_alloc | apply Kd.N_drewN | apply Kd.N_drew)); exact Kd.N_mono HO268.out (fun _ hk => (by first | exact ⟨hk.1.1, ⟨hk.1.2.1, ⟨hk.1.2.2.1, ⟨hk.1.2.2.2.1, ⟨hk.1.2.2.2.2.1, ⟨hk.2, ⟨hk.1.2.2.2.2.2.1, ⟨hk.1.2.2.2.2.2.2.1, ⟨hk.1.2.2.2.2.2.2.2.1, hk.1.2.2.2.2.2.2.2.2⟩⟩⟩⟩⟩⟩⟩⟩⟩ | simp [hk]))), fun _ => (by (with_reducible repeat (first | apply Kd.V_alloc | apply Kd.V_drewN | apply Kd.V_drew)); exact Kd.V_mono HO272.out (fun _ hk => (by first | exact ⟨hk.1.1, ⟨hk.1.2.1, ⟨hk.1.2.2.1, ⟨hk.1.2.2.2.1, ⟨hk.1.2.2.2.2.1, ⟨hk.1.2.2.2.2.2.1, ⟨hk.2, ⟨hk.1.2.2.2.2.2.2.1, ⟨hk.1.2.2.2.2.2.2.2.1, ⟨hk.1.2.2.2.2.2.2.2.2.1, hk.1.2.2.2.2.2.2.2.2.2⟩⟩⟩⟩⟩⟩⟩⟩⟩⟩ | simp [hk]))), fun _ => (by (with_reducible repeat (first | apply Kd.N_alloc | apply Kd.N_drewN | apply Kd.N_drew)); exact Kd.N_mono HO275.out (fun _ hk => (by first | exact ⟨hk.1.1, ⟨hk.1.2.1, ⟨hk.1.2.2.1, ⟨hk.1.2.2.2.1, ⟨hk.1.2.2.2.2.1, ⟨hk.2, ⟨hk.1.2.2.2.2.2.1, ⟨hk.1.2.2.2.2.2.2.1, ⟨hk.1.2.2.2.2.2.2.2.1, hk.1.2.2.2.2.2.2.2.2⟩⟩⟩⟩⟩⟩⟩⟩⟩ | simp [hk]))), fun _ => (by (with_reducible repeat (first | apply Kd.V_alloc | apply Kd.V_drewN | apply Kd.V_drew)); exact Kd.V_mono HO279.out (fun _ hk => (by first | exact ⟨hk.1.1, ⟨hk.1.2.1, ⟨hk.1.2.2.1, ⟨hk.1.2.2.2.1, ⟨hk.1.2.2.2.2.1, ⟨hk.1.2.2.2.2.2.1, ⟨hk.2, ⟨hk.1.2.2.2.2.2.2.1, ⟨hk.1.2.2.2.2.2.2.2.1, ⟨hk.1.2.2.2.2.2.2.2.2.1, hk.1.2.2.2.2.2.2.2.2.2⟩⟩⟩⟩⟩⟩⟩⟩⟩⟩ | simp [hk]))), fun _ => (by first | exact Kd.nk HO282 | exact Kd.N_mono (Kd.nk HO282) (fun _ hk => (by simp [hk]))), fun h0_ => absurd ((hoff 10 (by kernel_rfl)).symm.trans h0_) (by decide), Q_X3_, Q_X8_, fun h0_ => absurd ((hoff 10 (by kernel_rfl)).symm.trans h0_) (by decide)⟩
     refine steps_cons ?_ ?_
     ·
      rintro b a w' ⟨v267, v271, v274, v278, v281, v285, m3_, m8_, m10_, ha, Q_HO244, Q_HO248, Q_HO252, Q_HO256, Q_HO260, Q_HO264, Q_HO_236001, Q_HO_237001, Q_HO_238001, Q_BK235, Q_BK236, Q_BK237, Q_BK249, Q_HB, Q_HO268, Q_HO272, Q_HO275, Q_HO279, Q_HO282, Q_HO286, Q_X3_, Q_X8_, Q_X10_⟩ hb_ hon hoff
      refine ⟨_, rfl, fun K hK => ?_⟩
      have e59 : a.tmps[59]? = some (v281) := by rw [ha]; exact putSel_on (e := (9, 59, v281)) 9 rfl rfl (hon 9 (by kernel_rfl)) rfl
      replace ha := Aside0.mk ha
      have HO244 := Aside0.mk Q_HO244
      have HO248 := Aside0.mk Q_HO248
      have HO252 := Aside0.mk Q_HO252
      have HO256 := Aside0.mk Q_HO256
      have HO260 := Aside0.mk Q_HO260
      have HO264 := Aside0.mk Q_HO264
      have HO_236001 := Aside0.mk Q_HO_236001
      have HO_237001 := Aside0.mk Q_HO_237001
      have HO_238001 := Aside0.mk Q_HO_238001
      have BK235 := Aside0.mk Q_BK235
      have BK236 := Aside0.mk Q_BK236
      have BK237 := Aside0.mk Q_BK237
      have BK249 := Aside0.mk Q_BK249
      have HB := Aside0.mk Q_HB
      have HO268 := Aside0.mk (Q_HO268 (hon 2 (by kernel_rfl)))
      have HO272 := Aside0.mk (Q_HO272 (hon 3 (by kernel_rfl)))
      have HO275 := Aside0.mk (Q_HO275 (hon 7 (by kernel_rfl)))
      have HO279 := Aside0.mk (Q_HO279 (hon 8 (by kernel_rfl)))
      have HO282 := Aside0.mk (Q_HO282 (hon 9 (by kernel_rfl)))
      obtain ⟨Ao90, co90, eo90⟩ := Kd.N_slice HO282.out
      (first | subst eo90 | (injection eo90 with f1_ f2_ f3_; have f4_ := f1_.symm; have f5_ := f3_.symm; clear f1_ f2_ f3_; subst f4_; subst f5_))
      refine goes_ Try.func11 (by kernel_rfl) rfl #[.slice Ao90 y280.length co90] (by rfl) rfl rfl (by first | (simp only [List.map_toArray, List.map_cons, List.map_nil, Act.eval, Array.getD_eq_getD_getElem?, Option.getD_some, e59]; done) | (simp only [List.map_toArray, List.map_cons, List.map_nil, Act.eval, Array.getD_eq_getD_getElem?, Option.getD_some, e59]; rfl)) ?_
      with_reducible refine (attr_MergeV.calls kj4 _ _ y280 t283 t284 _ ?side1 ?side2 A44.out).mono ?_
      (case side1 => repeat (first | exact (Kd.N_reads' HO282.out).2.2 | (with_reducible refine Kd.C_alloc ?_ _) | (with_reducible refine Kd.C_drewN ?_ _) | (with_reducible refine Kd.C_drew ?_)))
      (case side2 => exact (Kd.N_reads' HO282.out).2.1)
      rintro e w91 ⟨v285, rfl, ho0, hb⟩
      refine ⟨_, rfl, ?_⟩
      have n0_ := Aside0.mk (Kd.V_below (Kd.vk HO_236001) hb)
      have n1_ := Aside0.mk (Kd.V_below (Kd.vk HO_237001) hb)
      have n2_ := Aside0.mk (Kd.V_below (Kd.vk HO_238001) hb)
      have n3_ := Aside0.mk (Kd.N_below (Kd.nk HO244) hb)
      have n4_ := Aside0.mk (Kd.V_below (Kd.vk HO248) hb)
      have n5_ := Aside0.mk (Kd.N_below (Kd.nk HO252) hb)
      have n6_ := Aside0.mk (Kd.V_below (Kd.vk HO256) hb)
      have n7_ := Aside0.mk (Kd.N_below (Kd.nk HO260) hb)
      have n8_ := Aside0.mk (Kd.V_below (Kd.vk HO264) hb)
      have n9_ := Aside0.mk (Kd.N_below (Kd.nk HO268) hb)
      have n10_ := Aside0.mk (Kd.V_below (Kd.vk HO272) hb)
      have n11_ := Aside0.mk (Kd.N_below (Kd.nk HO275) hb)
      have n12_ := Aside0.mk (Kd.V_below (Kd.vk HO279) hb)
      have n13_ := Aside0.mk (Kd.N_below (Kd.nk HO282) hb)
      have n14_ := Aside0.mk (Kd.V_lower (Kd.V_mono (ok' := fun k_ => ((P0_1_ k_ ∨ P1_1_ k_ ∨ P2_1_ k_) ∨ w.heap.size ≤ k_) ∧ some k_ ≠ (.slice Ao54 y242.length co54 : Value).ownBlock ∧ some k_ ≠ (.slice Ao66 y250.length co66 : Value).ownBlock ∧ some k_ ≠ (.slice Ao73 y258.length co73 : Value).ownBlock ∧ some k_ ≠ (v267 : Value).ownBlock ∧ some k_ ≠ (v274 : Value).ownBlock ∧ some k_ ≠ (.slice Ao90 y280.length co90 : Value).ownBlock ∧ k_ ≠ gb235 ∧ k_ ≠ gb236 ∧ k_ ≠ gb237 ∧ k_ ≠ gb249) ho0 (fun k_ hk_ => ⟨(.inr (Nat.le_trans (below_size (gw_ HB)) hk_)), (Kd.fresh' (Kd.N_lt (Kd.nk HO244)) k_ hk_), (Kd.fresh' (Kd.N_lt (Kd.nk HO252)) k_ hk_), (Kd.fresh' (Kd.N_lt (Kd.nk HO260)) k_ hk_), (Kd.fresh' (Kd.N_lt (Kd.nk HO268)) k_ hk_), (Kd.fresh' (Kd.N_lt (Kd.nk HO275)) k_ hk_), (Kd.fresh' (Kd.N_lt (Kd.nk HO282)) k_ hk_), (Kd.freshB (g := gb235) (bk BK235) k_ hk_), (Kd.freshB (g := gb236) (bk BK236) k_ hk_), (Kd.freshB (g := gb237) (bk BK237) k_ hk_), (Kd.freshB (g := gb249) (bk BK249) k_ hk_)⟩)) (below_size (gw_ HB)))
      have n15_ := Aside0.mk (blk_below (g := gb235) (bk BK235) hb)
      have n16_ := Aside0.mk (blk_below (g := gb236) (bk BK236) hb)
      have n17_ := Aside0.mk (blk_below (g := gb237) (bk BK237) hb)
      have n18_ := Aside0.mk (blk_below (g := gb249) (bk BK249) hb)
      have n19_ := Aside0.mk (below_step (gw_ HB) hb)
      clear HO_236001
      clear HO_237001
      clear HO_238001
      clear HO244
      clear HO248
      clear HO252
      clear HO256
      clear HO260
      clear HO264
      clear HO268
      clear HO272
      clear HO275
      clear HO279
      clear HO282
      clear BK235
      clear BK236
      clear BK237
      clear BK249
      clear HB
      have HO_236001 := n0_
      have HO_237001 := n1_
      have HO_238001 := n2_
      have HO244 := n3_
      have HO248 := n4_
      have HO252 := n5_
      have HO256 := n6_
      have HO260 := n7_
      have HO264 := n8_
      have HO268 := n9_
      have HO272 := n10_
      have HO275 := n11_
      have HO279 := n12_
      have HO282 := n13_
      have HO286 := n14_
      have BK235 := n15_
      have BK236 := n16_
      have BK237 := n17_
      have BK249 := n18_
      have HB := n19_
      clear n0_ n1_ n2_ n3_ n4_ n5_ n6_ n7_ n8_ n9_ n10_ n11_ n12_ n13_ n14_ n15_ n16_ n17_ n18_ n19_
      (try clear hb)
      (try clear hb2)
      (try clear hk)
      (try clear hi)
      (try clear ho0)
      refine hK.out _ _ ⟨v267, v271, v274, v278, .slice Ao90 y280.length co90, v285, m3_, m8_, (.agg #[.int .i64 t283, v285]), (by rw [ha.out]; exact putSel_upk 10 hb_ rfl rfl rfl), (Kd.nk HO244), (Kd.vk HO248), (Kd.nk HO252), (Kd.vk HO256), (Kd.nk HO260), (Kd.vk HO264), (Kd.vk HO_236001), (Kd.vk HO_237001), (Kd.vk HO_238001), (bk BK235), (bk BK236), (bk BK237), (bk BK249), (gw_ HB), fun _ => (by first | exact Kd.nk HO268 | exact Kd.N_mono (Kd.nk HO268) (fun _ hk => (by simp [hk]))), fun _ => (by first | exact Kd.vk HO272 | exact Kd.V_mono (Kd.vk HO272) (fun _ hk => (by simp [hk]))), fun _ => (by first | exact Kd.nk HO275 | exact Kd.N_mono (Kd.nk HO275) (fun _ hk => (by simp [hk]))), fun _ => (by first | exact Kd.vk HO279 | exact Kd.V_mono (Kd.vk HO279) (fun _ hk => (by simp [hk]))), fun _ => (by first | exact Kd.nk HO282 | exact Kd.N_mono (Kd.nk HO282) (fun _ hk => (by simp [hk]))), fun _ => (by first | exact Kd.vk HO286 | exact Kd.V_mono (Kd.vk HO286) (fun _ hk => (by simp [hk]))), Q_X3_, Q_X8_, fun _ => rfl⟩
     refine steps_cons ?_ ?_
     ·
      rintro b a w' ⟨v267, v271, v274, v278, v281, v285, m3_, m8_, m10_, ha, Q_HO244, Q_HO248, Q_HO252, Q_HO256, Q_HO260, Q_HO264, Q_HO_236001, Q_HO_237001, Q_HO_238001, Q_BK235, Q_BK236, Q_BK237, Q_BK249, Q_HB, Q_HO268, Q_HO272, Q_HO275, Q_HO279, Q_HO282, Q_HO286, Q_X3_, Q_X8_, Q_X10_⟩ hb_ hon hoff
      refine ⟨_, rfl, fun K hK => ?_⟩
      have e53 : a.tmps[53]? = some (m3_) := by rw [ha]; exact putSel_on (e := (3, 53, m3_)) 3 rfl rfl (hon 3 (by kernel_rfl)) rfl
      rw [Q_X3_ (hon 3 (by kernel_rfl))] at e53
      have e60 : a.tmps[60]? = some (m10_) := by rw [ha]; exact putSel_on (e := (10, 60, m10_)) 10 rfl rfl (hon 10 (by kernel_rfl)) rfl
      rw [Q_X10_ (hon 10 (by kernel_rfl))] at e60
      replace ha := Aside0.mk ha
      have HO244 := Aside0.mk Q_HO244
      have HO248 := Aside0.mk Q_HO248
      have HO252 := Aside0.mk Q_HO252
      have HO256 := Aside0.mk Q_HO256
      have HO260 := Aside0.mk Q_HO260
      have HO264 := Aside0.mk Q_HO264
      have HO_236001 := Aside0.mk Q_HO_236001
      have HO_237001 := Aside0.mk Q_HO_237001
      have HO_238001 := Aside0.mk Q_HO_238001
      have BK235 := Aside0.mk Q_BK235
      have BK236 := Aside0.mk Q_BK236
      have BK237 := Aside0.mk Q_BK237
      have BK249 := Aside0.mk Q_BK249
      have HB := Aside0.mk Q_HB
      have HO268 := Aside0.mk (Q_HO268 (hon 2 (by kernel_rfl)))
      have HO272 := Aside0.mk (Q_HO272 (hon 3 (by kernel_rfl)))
      have HO275 := Aside0.mk (Q_HO275 (hon 7 (by kernel_rfl)))
      have HO279 := Aside0.mk (Q_HO279 (hon 8 (by kernel_rfl)))
      have HO282 := Aside0.mk (Q_HO282 (hon 9 (by kernel_rfl)))
      have HO286 := Aside0.mk (Q_HO286 (hon 10 (by kernel_rfl)))
      obtain ⟨Ao92, co92, eo92⟩ := Kd.V_slice HO272.out
      (first | subst eo92 | (injection eo92 with f1_ f2_ f3_; have f4_ := f1_.symm; have f5_ := f3_.symm; clear f1_ f2_ f3_; subst f4_; subst f5_))
      obtain ⟨Ao93, co93, eo93⟩ := Kd.V_slice HO286.out
      (first | subst eo93 | (injection eo93 with f1_ f2_ f3_; have f4_ := f1_.symm; have f5_ := f3_.symm; clear f1_ f2_ f3_; subst f4_; subst f5_))
      refine goes_ Try.func16 (by kernel_rfl) rfl #[.agg #[.int .i64 t269, .slice Ao92 t270.length co92], .agg #[.int .i64 t283, .slice Ao93 t284.length co93]] (by rfl) rfl rfl (by first | (simp only [List.map_toArray, List.map_cons, List.map_nil, Act.eval, Array.getD_eq_getD_getElem?, Option.getD_some, e53, e60]; done) | (simp only [List.map_toArray, List.map_cons, List.map_nil, Act.eval, Array.getD_eq_getD_getElem?, Option.getD_some, e53, e60]; rfl)) ?_
      with_reducible refine (attr_Same.calls t269 _ _ t270 t283 _ _ t284 t287 _ ?side1 ?side2 ?side3 ?side4 A45.out).mono ?_
      (case side1 => repeat (first | exact (Kd.V_reads' HO272.out).2.2 | (with_reducible refine Kd.C_alloc ?_ _) | (with_reducible refine Kd.C_drewN ?_ _) | (with_reducible refine Kd.C_drew ?_)))
      (case side2 => exact (Kd.V_reads' HO272.out).2.1)
      (case side3 => repeat (first | exact (Kd.V_reads' HO286.out).2.2 | (with_reducible refine Kd.C_alloc ?_ _) | (with_reducible refine Kd.C_drewN ?_ _) | (with_reducible refine Kd.C_drew ?_)))
      (case side4 => exact (Kd.V_reads' HO286.out).2.1)
      rintro e w94 ⟨rfl, hb⟩
      refine ⟨_, rfl, ?_⟩
      have n0_ := Aside0.mk (Kd.V_below (Kd.vk HO_236001) hb)
      have n1_ := Aside0.mk (Kd.V_below (Kd.vk HO_237001) hb)
      have n2_ := Aside0.mk (Kd.V_below (Kd.vk HO_238001) hb)
      have n3_ := Aside0.mk (Kd.N_below (Kd.nk HO244) hb)
      have n4_ := Aside0.mk (Kd.V_below (Kd.vk HO248) hb)
      have n5_ := Aside0.mk (Kd.N_below (Kd.nk HO252) hb)
      have n6_ := Aside0.mk (Kd.V_below (Kd.vk HO256) hb)
      have n7_ := Aside0.mk (Kd.N_below (Kd.nk HO260) hb)
      have n8_ := Aside0.mk (Kd.V_below (Kd.vk HO264) hb)
      have n9_ := Aside0.mk (Kd.N_below (Kd.nk HO268) hb)
      have n10_ := Aside0.mk (Kd.V_below (Kd.vk HO272) hb)
      have n11_ := Aside0.mk (Kd.N_below (Kd.nk HO275) hb)
      have n12_ := Aside0.mk (Kd.V_below (Kd.vk HO279) hb)
      have n13_ := Aside0.mk (Kd.N_below (Kd.nk HO282) hb)
      have n14_ := Aside0.mk (Kd.V_below (Kd.vk HO286) hb)
      have n15_ := Aside0.mk (blk_below (g := gb235) (bk BK235) hb)
      have n16_ := Aside0.mk (blk_below (g := gb236) (bk BK236) hb)
      have n17_ := Aside0.mk (blk_below (g := gb237) (bk BK237) hb)
      have n18_ := Aside0.mk (blk_below (g := gb249) (bk BK249) hb)
      have n19_ := Aside0.mk (below_step (gw_ HB) hb)
      clear HO_236001
      clear HO_237001
      clear HO_238001
      clear HO244
      clear HO248
      clear HO252
      clear HO256
      clear HO260
      clear HO264
      clear HO268
      clear HO272
      clear HO275
      clear HO279
      clear HO282
      clear HO286
      clear BK235
      clear BK236
      clear BK237
      clear BK249
      clear HB
      have HO_236001 := n0_
      have HO_237001 := n1_
      have HO_238001 := n2_
      have HO244 := n3_
      have HO248 := n4_
      have HO252 := n5_
      have HO256 := n6_
      have HO260 := n7_
      have HO264 := n8_
      have HO268 := n9_
      have HO272 := n10_
      have HO275 := n11_
      have HO279 := n12_
      have HO282 := n13_
      have HO286 := n14_
      have BK235 := n15_
      have BK236 := n16_
      have BK237 := n17_
      have BK249 := n18_
      have HB := n19_
      clear n0_ n1_ n2_ n3_ n4_ n5_ n6_ n7_ n8_ n9_ n10_ n11_ n12_ n13_ n14_ n15_ n16_ n17_ n18_ n19_
      (try clear hb)
      (try clear hb2)
      (try clear hk)
      (try clear hi)
      refine hK.out _ _ ⟨v267, .slice Ao92 t270.length co92, v274, v278, v281, .slice Ao93 t284.length co93, m3_, m8_, m10_, (by rw [ha.out]; exact putSel_upk 11 hb_ rfl rfl rfl), (Kd.nk HO244), (Kd.vk HO248), (Kd.nk HO252), (Kd.vk HO256), (Kd.nk HO260), (Kd.vk HO264), (Kd.vk HO_236001), (Kd.vk HO_237001), (Kd.vk HO_238001), (bk BK235), (bk BK236), (bk BK237), (bk BK249), (gw_ HB), fun _ => (by first | exact Kd.nk HO268 | exact Kd.N_mono (Kd.nk HO268) (fun _ hk => (by simp [hk]))), fun _ => (by first | exact Kd.vk HO272 | exact Kd.V_mono (Kd.vk HO272) (fun _ hk => (by simp [hk]))), fun _ => (by first | exact Kd.nk HO275 | exact Kd.N_mono (Kd.nk HO275) (fun _ hk => (by simp [hk]))), fun _ => (by first | exact Kd.vk HO279 | exact Kd.V_mono (Kd.vk HO279) (fun _ hk => (by simp [hk]))), fun _ => (by first | exact Kd.nk HO282 | exact Kd.N_mono (Kd.nk HO282) (fun _ hk => (by simp [hk]))), fun _ => (by first | exact Kd.vk HO286 | exact Kd.V_mono (Kd.vk HO286) (fun _ hk => (by simp [hk]))), Q_X3_, Q_X8_, Q_X10_⟩
     refine steps_cons ?_ ?_
     ·
      rintro b a w' ⟨v267, v271, v274, v278, v281, v285, m3_, m8_, m10_, ha, Q_HO244, Q_HO248, Q_HO252, Q_HO256, Q_HO260, Q_HO264, Q_HO_236001, Q_HO_237001, Q_HO_238001, Q_BK235, Q_BK236, Q_BK237, Q_BK249, Q_HB, Q_HO268, Q_HO272, Q_HO275, Q_HO279, Q_HO282, Q_HO286, Q_X3_, Q_X8_, Q_X10_⟩ hb_ hon hoff
      refine ⟨_, rfl, fun K hK => ?_⟩
      have e61 : a.tmps[61]? = some (.bool t287) := by rw [ha]; exact putSel_on (e := (11, 61, .bool t287)) 11 rfl rfl (hon 11 (by kernel_rfl)) rfl
      replace ha := Aside0.mk ha
      have HO244 := Aside0.mk Q_HO244
      have HO248 := Aside0.mk Q_HO248
      have HO252 := Aside0.mk Q_HO252
      have HO256 := Aside0.mk Q_HO256
      have HO260 := Aside0.mk Q_HO260
      have HO264 := Aside0.mk Q_HO264
      have HO_236001 := Aside0.mk Q_HO_236001
      have HO_237001 := Aside0.mk Q_HO_237001
      have HO_238001 := Aside0.mk Q_HO_238001
      have BK235 := Aside0.mk Q_BK235
      have BK236 := Aside0.mk Q_BK236
      have BK237 := Aside0.mk Q_BK237
      have BK249 := Aside0.mk Q_BK249
      have HB := Aside0.mk Q_HB
      have HO268 := Aside0.mk (Q_HO268 (hon 2 (by kernel_rfl)))
      have HO272 := Aside0.mk (Q_HO272 (hon 3 (by kernel_rfl)))
      have HO275 := Aside0.mk (Q_HO275 (hon 7 (by kernel_rfl)))
      have HO279 := Aside0.mk (Q_HO279 (hon 8 (by kernel_rfl)))
      have HO282 := Aside0.mk (Q_HO282 (hon 9 (by kernel_rfl)))
      have HO286 := Aside0.mk (Q_HO286 (hon 10 (by kernel_rfl)))
      refine value_ (w1 := w') (v := .bool t287) (by rfl) rfl ?_ ?_
      ·
       go_simp
       (try simp only [i64_w])
       try rfl
      refine hK.out _ _ ⟨v267, v271, v274, v278, v281, v285, m3_, m8_, m10_, (by rw [ha.out]; exact putSel_upk 12 hb_ rfl rfl rfl), Q_HO244, Q_HO248, Q_HO252, Q_HO256, Q_HO260, Q_HO264, Q_HO_236001, Q_HO_237001, Q_HO_238001, Q_BK235, Q_BK236, Q_BK237, Q_BK249, Q_HB, Q_HO268, Q_HO272, Q_HO275, Q_HO279, Q_HO282, Q_HO286, Q_X3_, Q_X8_, Q_X10_⟩
     exact steps_nil
    rintro b a w94 hall ⟨v267, v271, v274, v278, v281, v285, m3_, m8_, m10_, ha, Q_HO244, Q_HO248, Q_HO252, Q_HO256, Q_HO260, Q_HO264, Q_HO_236001, Q_HO_237001, Q_HO_238001, Q_BK235, Q_BK236, Q_BK237, Q_BK249, Q_HB, Q_HO268, Q_HO272, Q_HO275, Q_HO279, Q_HO282, Q_HO286, Q_X3_, Q_X8_, Q_X10_⟩
    clear BK235 BK236 BK237 BK249 HB HO244 HO248 HO252 HO256 HO260 HO264 HO_236001 HO_237001 HO_238001
    have hb0_ := hall 0 (by kernel_rfl)
    have hb1_ := hall 1 (by kernel_rfl)
    have hb2_ := hall 2 (by kernel_rfl)
    have hb3_ := hall 3 (by kernel_rfl)
    have hb4_ := hall 4 (by kernel_rfl)
    have hb5_ := hall 5 (by kernel_rfl)
    have hb6_ := hall 6 (by kernel_rfl)
    have hb7_ := hall 7 (by kernel_rfl)
    have hb8_ := hall 8 (by kernel_rfl)
    have hb9_ := hall 9 (by kernel_rfl)
    have hb10_ := hall 10 (by kernel_rfl)
    have hb11_ := hall 11 (by kernel_rfl)
    have hb12_ := hall 12 (by kernel_rfl)
    subst ha
    obtain rfl := Q_X3_ hb3_
    obtain rfl := Q_X8_ hb8_
    obtain rfl := Q_X10_ hb10_
    simp only [putSel, hb0_, hb1_, hb2_, hb3_, hb4_, hb5_, hb6_, hb7_, hb8_, hb9_, hb10_, hb11_, hb12_, if_true, Act.put, List.setIfInBounds_toArray, List.set_cons_zero, List.set_cons_succ]
    have HO244 := Aside0.mk Q_HO244
    clear Q_HO244
    have HO248 := Aside0.mk Q_HO248
    clear Q_HO248
    have HO252 := Aside0.mk Q_HO252
    clear Q_HO252
    have HO256 := Aside0.mk Q_HO256
    clear Q_HO256
    have HO260 := Aside0.mk Q_HO260
    clear Q_HO260
    have HO264 := Aside0.mk Q_HO264
    clear Q_HO264
    have HO_236001 := Aside0.mk Q_HO_236001
    clear Q_HO_236001
    have HO_237001 := Aside0.mk Q_HO_237001
    clear Q_HO_237001
    have HO_238001 := Aside0.mk Q_HO_238001
    clear Q_HO_238001
    have BK235 := Aside0.mk Q_BK235
    clear Q_BK235
    have BK236 := Aside0.mk Q_BK236
    clear Q_BK236
    have BK237 := Aside0.mk Q_BK237
    clear Q_BK237
    have BK249 := Aside0.mk Q_BK249
    clear Q_BK249
    have HB := Aside0.mk Q_HB
    clear Q_HB
    have HO268 := Aside0.mk (Q_HO268 hb2_)
    clear Q_HO268
    have HO272 := Aside0.mk (Q_HO272 hb3_)
    clear Q_HO272
    have HO275 := Aside0.mk (Q_HO275 hb7_)
    clear Q_HO275
    have HO279 := Aside0.mk (Q_HO279 hb8_)
    clear Q_HO279
    have HO282 := Aside0.mk (Q_HO282 hb9_)
    clear Q_HO282
    have HO286 := Aside0.mk (Q_HO286 hb10_)
    clear Q_HO286
    clear hall hb0_ hb1_ hb2_ hb3_ hb4_ hb5_ hb6_ hb7_ hb8_ hb9_ hb10_ hb11_ hb12_
    go_upto_region 8 with (fail)
    go_cut [12] (fun v12 wc => ∃ (kq : Nat) (x12_45 : Bool), v12 = .bool x12_45 ∧ Aside0 (colloquylaw06_AttrJoins.j1 kq t257 t265 t287 x12_45 a0_0 l0_1 a1_0 l1_1 t245 t246 = some r) ∧ Aside0 (kq ≤ kj4) ∧ Aside0 (Kd.V (Kd.int .i64) 3 wc w.heap.size (fun k_ => ((P0_1_ k_ ∨ P1_1_ k_ ∨ P2_1_ k_) ∨ w.heap.size ≤ k_) ∧ k_ ≠ gb235 ∧ k_ ≠ gb236 ∧ k_ ≠ gb237 ∧ k_ ≠ gb249) (.slice A0_1 l0_1.length c0_1) l0_1) ∧ Aside0 (Kd.V (Kd.int .i64) 3 wc w.heap.size (fun k_ => ((P0_1_ k_ ∨ P1_1_ k_ ∨ P2_1_ k_) ∨ w.heap.size ≤ k_) ∧ k_ ≠ gb235 ∧ k_ ≠ gb236 ∧ k_ ≠ gb237 ∧ k_ ≠ gb249) (.slice A1_1 l1_1.length c1_1) l1_1) ∧ Aside0 (Kd.V (Kd.int .i64) 3 wc w.heap.size (fun k_ => ((P0_1_ k_ ∨ P1_1_ k_ ∨ P2_1_ k_) ∨ w.heap.size ≤ k_) ∧ k_ ≠ gb235 ∧ k_ ≠ gb236 ∧ k_ ≠ gb237 ∧ k_ ≠ gb249) (.slice A2_1 l2_1.length c2_1) l2_1) ∧ Aside0 (Kd.V (Kd.int .i64) 3 wc w.heap.size (fun k_ => ((P0_1_ k_ ∨ P1_1_ k_ ∨ P2_1_ k_) ∨ w.heap.size ≤ k_) ∧ k_ ≠ gb235 ∧ k_ ≠ gb236 ∧ k_ ≠ gb237 ∧ k_ ≠ gb249) (.slice Ao61 t246.length co61) t246) ∧ Aside0 (wc.heap[gb235]? = some (.cells #[.int .i64 a0_0, (.slice A0_1 l0_1.length c0_1)] 27 (0, 0))) ∧ Aside0 (wc.heap[gb236]? = some (.cells #[.int .i64 a1_0, (.slice A1_1 l1_1.length c1_1)] 27 (0, 0))) ∧ Aside0 (wc.heap[gb237]? = some (.cells #[.int .i64 a2_0, (.slice A2_1 l2_1.length c2_1)] 27 (0, 0))) ∧ Aside0 (wc.heap[gb249]? = some (.cells #[.int .i64 t245, (.slice Ao61 t246.length co61)] 27 (0, 0))) ∧ Aside0 (Below w.heap.size w wc))
    case first =>
     have H := HC46.out
     clear HC46
     replace H := Option.bind_eq_some_iff.mp H
     obtain ⟨t288, A950, H⟩ := H
     replace H : (if t288 = true then ((attr_Within.f a1_0 l1_1 a2_0 l2_1).bind fun t289 => (if t289 = true then ((attr_Within.f t245 t246 a2_0 l2_1).bind fun t290 => (colloquylaw06_AttrJoins.j1 kj4 t257 t265 t287 t290 a0_0 l0_1 a1_0 l1_1 t245 t246)) else (colloquylaw06_AttrJoins.j1 kj4 t257 t265 t287 true a0_0 l0_1 a1_0 l1_1 t245 t246))) else (colloquylaw06_AttrJoins.j1 kj4 t257 t265 t287 true a0_0 l0_1 a1_0 l1_1 t245 t246)) = some r := H
     have A95 := Aside0.mk A950
     clear A950
     by_cases c96 : t288 = true
     ·
      subst c96
      have H1 : ((attr_Within.f a1_0 l1_1 a2_0 l2_1).bind fun t289 => (if t289 = true then ((attr_Within.f t245 t246 a2_0 l2_1).bind fun t290 => (colloquylaw06_AttrJoins.j1 kj4 t257 t265 t287 t290 a0_0 l0_1 a1_0 l1_1 t245 t246)) else (colloquylaw06_AttrJoins.j1 kj4 t257 t265 t287 true a0_0 l0_1 a1_0 l1_1 t245 t246))) = some r := by rw [if_pos rfl] at H; exact H
      clear H
      have H := H1
      clear H1
      replace H := Option.bind_eq_some_iff.mp H
      obtain ⟨t289, A970, H⟩ := H
      replace H : (if t289 = true then ((attr_Within.f t245 t246 a2_0 l2_1).bind fun t290 => (colloquylaw06_AttrJoins.j1 kj4 t257 t265 t287 t290 a0_0 l0_1 a1_0 l1_1 t245 t246)) else (colloquylaw06_AttrJoins.j1 kj4 t257 t265 t287 true a0_0 l0_1 a1_0 l1_1 t245 t246)) = some r := H
      have A97 := Aside0.mk A970
      clear A970
      by_cases c98 : t289 = true
      ·
       subst c98
       have H1 : ((attr_Within.f t245 t246 a2_0 l2_1).bind fun t290 => (colloquylaw06_AttrJoins.j1 kj4 t257 t265 t287 t290 a0_0 l0_1 a1_0 l1_1 t245 t246)) = some r := by rw [if_pos rfl] at H; exact H
       clear H
       have H := H1
       clear H1
       replace H := Option.bind_eq_some_iff.mp H
       obtain ⟨t290, A990, H⟩ := H
       replace H : (colloquylaw06_AttrJoins.j1 kj4 t257 t265 t287 t290 a0_0 l0_1 a1_0 l1_1 t245 t246) = some r := H
       have A99 := Aside0.mk A990
       clear A990
       have H' := Aside0.mk H
       clear H
       have hnb100 := NB235_236.out
       have hnc100 := NB236_235.out
       have hnb101 := NB235_237.out
       have hnc101 := NB237_235.out
       have hnb102 := NB235_249.out
       have hnc102 := NB249_235.out
       obtain ⟨hcz103_0, hcz103_1⟩ := blk_cells2 BK235.out
       obtain ⟨hfz103_0, hfz103_1⟩ := blk_frozens2 BK235.out
       have hnb104 := NB237_236.out
       have hnc104 := NB236_237.out
       have hnb105 := NB237_249.out
       have hnc105 := NB249_237.out
       obtain ⟨hcz106_0, hcz106_1⟩ := blk_cells2 BK237.out
       obtain ⟨hfz106_0, hfz106_1⟩ := blk_frozens2 BK237.out
       go_wp2_with (first | ((with_reducible refine gate_callee (f := 15) rfl ?_); refine goesL_ (some 64) rfl rfl Try.func15 (by kernel_rfl) rfl #[.agg #[.int .i64 a0_0, .slice A0_1 l0_1.length c0_1], .agg #[.int .i64 a2_0, .slice A2_1 l2_1.length c2_1]] rfl (by (try simp only [List.map_toArray, List.map_cons, List.map_nil]); first | done | rfl | (simp only [List.length_drop, List.length_take]; rfl)) ?_; (with_reducible refine (attr_Within.calls a0_0 _ _ l0_1 a2_0 _ _ l2_1 true _ ?side1 ?side2 ?side3 ?side4 A95.out).mono ?_); (case side1 => repeat (first | exact (Kd.V_reads' HO_236001.out).2.2 | (with_reducible refine Kd.C_alloc ?_ _) | (with_reducible refine Kd.C_drewN ?_ _) | (with_reducible refine Kd.C_drew ?_))); (case side2 => exact (Kd.V_reads' HO_236001.out).2.1); (case side3 => repeat (first | exact (Kd.V_reads' HO_238001.out).2.2 | (with_reducible refine Kd.C_alloc ?_ _) | (with_reducible refine Kd.C_drewN ?_ _) | (with_reducible refine Kd.C_drew ?_))); (case side4 => exact (Kd.V_reads' HO_238001.out).2.1); rintro e w107 ⟨rfl, hb⟩; refine ⟨_, rfl, ?_⟩; have n0_ := Aside0.mk (Kd.V_below (Kd.vk HO_236001) hb); have n1_ := Aside0.mk (Kd.V_below (Kd.vk HO_237001) hb); have n2_ := Aside0.mk (Kd.V_below (Kd.vk HO_238001) hb); have n3_ := Aside0.mk (Kd.N_below (Kd.nk HO244) hb); have n4_ := Aside0.mk (Kd.V_below (Kd.vk HO248) hb); have n5_ := Aside0.mk (Kd.N_below (Kd.nk HO252) hb); have n6_ := Aside0.mk (Kd.V_below (Kd.vk HO256) hb); have n7_ := Aside0.mk (Kd.N_below (Kd.nk HO260) hb); have n8_ := Aside0.mk (Kd.V_below (Kd.vk HO264) hb); have n9_ := Aside0.mk (Kd.N_below (Kd.nk HO268) hb); have n10_ := Aside0.mk (Kd.V_below (Kd.vk HO272) hb); have n11_ := Aside0.mk (Kd.N_below (Kd.nk HO275) hb); have n12_ := Aside0.mk (Kd.V_below (Kd.vk HO279) hb); have n13_ := Aside0.mk (Kd.N_below (Kd.nk HO282) hb); have n14_ := Aside0.mk (Kd.V_below (Kd.vk HO286) hb); have n15_ := Aside0.mk (blk_below (g := gb235) (bk BK235) hb); have n16_ := Aside0.mk (blk_below (g := gb236) (bk BK236) hb); have n17_ := Aside0.mk (blk_below (g := gb237) (bk BK237) hb); have n18_ := Aside0.mk (blk_below (g := gb249) (bk BK249) hb); have n19_ := Aside0.mk (below_step (gw_ HB) hb); clear HO_236001; clear HO_237001; clear HO_238001; clear HO244; clear HO248; clear HO252; clear HO256; clear HO260; clear HO264; clear HO268; clear HO272; clear HO275; clear HO279; clear HO282; clear HO286; clear BK235; clear BK236; clear BK237; clear BK249; clear HB; have HO_236001 := n0_; have HO_237001 := n1_; have HO_238001 := n2_; have HO244 := n3_; have HO248 := n4_; have HO252 := n5_; have HO256 := n6_; have HO260 := n7_; have HO264 := n8_; have HO268 := n9_; have HO272 := n10_; have HO275 := n11_; have HO279 := n12_; have HO282 := n13_; have HO286 := n14_; have BK235 := n15_; have BK236 := n16_; have BK237 := n17_; have BK249 := n18_; have HB := n19_; clear n0_ n1_ n2_ n3_ n4_ n5_ n6_ n7_ n8_ n9_ n10_ n11_ n12_ n13_ n14_ n15_ n16_ n17_ n18_ n19_; (try clear hb); (try clear hb2); (try clear hk); (try clear hi); have hnb108 := NB236_249.out; have hnc108 := NB249_236.out; obtain ⟨hcz109_0, hcz109_1⟩ := blk_cells2 BK236.out; obtain ⟨hfz109_0, hfz109_1⟩ := blk_frozens2 BK236.out; obtain ⟨hcz110_0, hcz110_1⟩ := blk_cells2 BK237.out; obtain ⟨hfz110_0, hfz110_1⟩ := blk_frozens2 BK237.out) | (go_at_call 15; (with_reducible refine (attr_Within.calls a1_0 _ _ l1_1 a2_0 _ _ l2_1 true _ ?side1 ?side2 ?side3 ?side4 A97.out).mono ?_); (case side1 => repeat (first | exact (Kd.V_reads' HO_237001.out).2.2 | (with_reducible refine Kd.C_alloc ?_ _) | (with_reducible refine Kd.C_drewN ?_ _) | (with_reducible refine Kd.C_drew ?_))); (case side2 => exact (Kd.V_reads' HO_237001.out).2.1); (case side3 => repeat (first | exact (Kd.V_reads' HO_238001.out).2.2 | (with_reducible refine Kd.C_alloc ?_ _) | (with_reducible refine Kd.C_drewN ?_ _) | (with_reducible refine Kd.C_drew ?_))); (case side4 => exact (Kd.V_reads' HO_238001.out).2.1); rintro e w111 ⟨rfl, hb⟩; have n0_ := Aside0.mk (Kd.V_below (Kd.vk HO_236001) hb); have n1_ := Aside0.mk (Kd.V_below (Kd.vk HO_237001) hb); have n2_ := Aside0.mk (Kd.V_below (Kd.vk HO_238001) hb); have n3_ := Aside0.mk (Kd.N_below (Kd.nk HO244) hb); have n4_ := Aside0.mk (Kd.V_below (Kd.vk HO248) hb); have n5_ := Aside0.mk (Kd.N_below (Kd.nk HO252) hb); have n6_ := Aside0.mk (Kd.V_below (Kd.vk HO256) hb); have n7_ := Aside0.mk (Kd.N_below (Kd.nk HO260) hb); have n8_ := Aside0.mk (Kd.V_below (Kd.vk HO264) hb); have n9_ := Aside0.mk (Kd.N_below (Kd.nk HO268) hb); have n10_ := Aside0.mk (Kd.V_below (Kd.vk HO272) hb); have n11_ := Aside0.mk (Kd.N_below (Kd.nk HO275) hb); have n12_ := Aside0.mk (Kd.V_below (Kd.vk HO279) hb); have n13_ := Aside0.mk (Kd.N_below (Kd.nk HO282) hb); have n14_ := Aside0.mk (Kd.V_below (Kd.vk HO286) hb); have n15_ := Aside0.mk (blk_below (g := gb235) (bk BK235) hb); have n16_ := Aside0.mk (blk_below (g := gb236) (bk BK236) hb); have n17_ := Aside0.mk (blk_below (g := gb237) (bk BK237) hb); have n18_ := Aside0.mk (blk_below (g := gb249) (bk BK249) hb); have n19_ := Aside0.mk (below_step (gw_ HB) hb); clear HO_236001; clear HO_237001; clear HO_238001; clear HO244; clear HO248; clear HO252; clear HO256; clear HO260; clear HO264; clear HO268; clear HO272; clear HO275; clear HO279; clear HO282; clear HO286; clear BK235; clear BK236; clear BK237; clear BK249; clear HB; have HO_236001 := n0_; have HO_237001 := n1_; have HO_238001 := n2_; have HO244 := n3_; have HO248 := n4_; have HO252 := n5_; have HO256 := n6_; have HO260 := n7_; have HO264 := n8_; have HO268 := n9_; have HO272 := n10_; have HO275 := n11_; have HO279 := n12_; have HO282 := n13_; have HO286 := n14_; have BK235 := n15_; have BK236 := n16_; have BK237 := n17_; have BK249 := n18_; have HB := n19_; clear n0_ n1_ n2_ n3_ n4_ n5_ n6_ n7_ n8_ n9_ n10_ n11_ n12_ n13_ n14_ n15_ n16_ n17_ n18_ n19_; (try clear hb); (try clear hb2); (try clear hk); (try clear hi); obtain ⟨hcz112_0, hcz112_1⟩ := blk_cells2 BK249.out; obtain ⟨hfz112_0, hfz112_1⟩ := blk_frozens2 BK249.out; obtain ⟨hcz113_0, hcz113_1⟩ := blk_cells2 BK237.out; obtain ⟨hfz113_0, hfz113_1⟩ := blk_frozens2 BK237.out) | (go_at_call 15; (with_reducible refine (attr_Within.calls t245 _ _ t246 a2_0 _ _ l2_1 t290 _ ?side1 ?side2 ?side3 ?side4 A99.out).mono ?_); (case side1 => repeat (first | exact (Kd.V_reads' HO248.out).2.2 | (with_reducible refine Kd.C_alloc ?_ _) | (with_reducible refine Kd.C_drewN ?_ _) | (with_reducible refine Kd.C_drew ?_))); (case side2 => exact (Kd.V_reads' HO248.out).2.1); (case side3 => repeat (first | exact (Kd.V_reads' HO_238001.out).2.2 | (with_reducible refine Kd.C_alloc ?_ _) | (with_reducible refine Kd.C_drewN ?_ _) | (with_reducible refine Kd.C_drew ?_))); (case side4 => exact (Kd.V_reads' HO_238001.out).2.1); rintro e w114 ⟨rfl, hb⟩; have n0_ := Aside0.mk (Kd.V_below (Kd.vk HO_236001) hb); have n1_ := Aside0.mk (Kd.V_below (Kd.vk HO_237001) hb); have n2_ := Aside0.mk (Kd.V_below (Kd.vk HO_238001) hb); have n3_ := Aside0.mk (Kd.N_below (Kd.nk HO244) hb); have n4_ := Aside0.mk (Kd.V_below (Kd.vk HO248) hb); have n5_ := Aside0.mk (Kd.N_below (Kd.nk HO252) hb); have n6_ := Aside0.mk (Kd.V_below (Kd.vk HO256) hb); have n7_ := Aside0.mk (Kd.N_below (Kd.nk HO260) hb); have n8_ := Aside0.mk (Kd.V_below (Kd.vk HO264) hb); have n9_ := Aside0.mk (Kd.N_below (Kd.nk HO268) hb); have n10_ := Aside0.mk (Kd.V_below (Kd.vk HO272) hb); have n11_ := Aside0.mk (Kd.N_below (Kd.nk HO275) hb); have n12_ := Aside0.mk (Kd.V_below (Kd.vk HO279) hb); have n13_ := Aside0.mk (Kd.N_below (Kd.nk HO282) hb); have n14_ := Aside0.mk (Kd.V_below (Kd.vk HO286) hb); have n15_ := Aside0.mk (blk_below (g := gb235) (bk BK235) hb); have n16_ := Aside0.mk (blk_below (g := gb236) (bk BK236) hb); have n17_ := Aside0.mk (blk_below (g := gb237) (bk BK237) hb); have n18_ := Aside0.mk (blk_below (g := gb249) (bk BK249) hb); have n19_ := Aside0.mk (below_step (gw_ HB) hb); clear HO_236001; clear HO_237001; clear HO_238001; clear HO244; clear HO248; clear HO252; clear HO256; clear HO260; clear HO264; clear HO268; clear HO272; clear HO275; clear HO279; clear HO282; clear HO286; clear BK235; clear BK236; clear BK237; clear BK249; clear HB; have HO_236001 := n0_; have HO_237001 := n1_; have HO_238001 := n2_; have HO244 := n3_; have HO248 := n4_; have HO252 := n5_; have HO256 := n6_; have HO260 := n7_; have HO264 := n8_; have HO268 := n9_; have HO272 := n10_; have HO275 := n11_; have HO279 := n12_; have HO282 := n13_; have HO286 := n14_; have BK235 := n15_; have BK236 := n16_; have BK237 := n17_; have BK249 := n18_; have HB := n19_; clear n0_ n1_ n2_ n3_ n4_ n5_ n6_ n7_ n8_ n9_ n10_ n11_ n12_ n13_ n14_ n15_ n16_ n17_ n18_ n19_; (try clear hb); (try clear hb2); (try clear hk); (try clear hi)))
       go_meet
       case rel => exact ⟨_, (t290), (by first | rfl | (simp; done) | (simp [*]; done)), H', ⟨by have := HJ4.out; first | omega | exact Nat.le_refl _⟩, ⟨by (with_reducible repeat (first | apply Kd.V_alloc | apply Kd.V_drewN | apply Kd.V_drew)); exact Kd.V_mono HO_236001.out (fun _ hk => (by first | exact ⟨hk.1, ⟨hk.2.2.2.2.2.2.2.1, ⟨hk.2.2.2.2.2.2.2.2.1, ⟨hk.2.2.2.2.2.2.2.2.2.1, hk.2.2.2.2.2.2.2.2.2.2⟩⟩⟩⟩ | simp [hk]))⟩, ⟨by (with_reducible repeat (first | apply Kd.V_alloc | apply Kd.V_drewN | apply Kd.V_drew)); exact Kd.V_mono HO_237001.out (fun _ hk => (by first | exact ⟨hk.1, ⟨hk.2.2.2.2.2.2.2.1, ⟨hk.2.2.2.2.2.2.2.2.1, ⟨hk.2.2.2.2.2.2.2.2.2.1, hk.2.2.2.2.2.2.2.2.2.2⟩⟩⟩⟩ | simp [hk]))⟩, ⟨by (with_reducible repeat (first | apply Kd.V_alloc | apply Kd.V_drewN | apply Kd.V_drew)); exact Kd.V_mono HO_238001.out (fun _ hk => (by first | exact ⟨hk.1, ⟨hk.2.2.2.2.2.2.2.1, ⟨hk.2.2.2.2.2.2.2.2.1, ⟨hk.2.2.2.2.2.2.2.2.2.1, hk.2.2.2.2.2.2.2.2.2.2⟩⟩⟩⟩ | simp [hk]))⟩, ⟨by (with_reducible repeat (first | apply Kd.V_alloc | apply Kd.V_drewN | apply Kd.V_drew)); exact Kd.V_mono HO248.out (fun _ hk => (by first | exact ⟨hk.1, ⟨hk.2.2.2.2.2.2.2.1, ⟨hk.2.2.2.2.2.2.2.2.1, ⟨hk.2.2.2.2.2.2.2.2.2.1, hk.2.2.2.2.2.2.2.2.2.2⟩⟩⟩⟩ | simp [hk]))⟩, ⟨by (with_reducible repeat (first | refine blk_drewN ?_ _ | refine blk_drew ?_ | refine blk_alloc ?_ _)); exact BK235.out⟩, ⟨by (with_reducible repeat (first | refine blk_drewN ?_ _ | refine blk_drew ?_ | refine blk_alloc ?_ _)); exact BK236.out⟩, ⟨by (with_reducible repeat (first | refine blk_drewN ?_ _ | refine blk_drew ?_ | refine blk_alloc ?_ _)); exact BK237.out⟩, ⟨by (with_reducible repeat (first | refine blk_drewN ?_ _ | refine blk_drew ?_ | refine blk_alloc ?_ _)); exact BK249.out⟩, ⟨gw_ HB⟩⟩
      ·
       replace c98 := Bool.eq_false_iff.mpr c98
       subst c98
       have H1 : (colloquylaw06_AttrJoins.j1 kj4 t257 t265 t287 true a0_0 l0_1 a1_0 l1_1 t245 t246) = some r := by rw [if_neg (show ¬ (false = true) by decide)] at H; exact H
       clear H
       have H := H1
       clear H1
       have H' := Aside0.mk H
       clear H
       have hnb115 := NB235_236.out
       have hnc115 := NB236_235.out
       have hnb116 := NB235_237.out
       have hnc116 := NB237_235.out
       have hnb117 := NB235_249.out
       have hnc117 := NB249_235.out
       obtain ⟨hcz118_0, hcz118_1⟩ := blk_cells2 BK235.out
       obtain ⟨hfz118_0, hfz118_1⟩ := blk_frozens2 BK235.out
       have hnb119 := NB237_236.out
       have hnc119 := NB236_237.out
       have hnb120 := NB237_249.out
       have hnc120 := NB249_237.out
       obtain ⟨hcz121_0, hcz121_1⟩ := blk_cells2 BK237.out
       obtain ⟨hfz121_0, hfz121_1⟩ := blk_frozens2 BK237.out
       go_wp2_with (first | ((with_reducible refine gate_callee (f := 15) rfl ?_); refine goesL_ (some 64) rfl rfl Try.func15 (by kernel_rfl) rfl #[.agg #[.int .i64 a0_0, .slice A0_1 l0_1.length c0_1], .agg #[.int .i64 a2_0, .slice A2_1 l2_1.length c2_1]] rfl (by (try simp only [List.map_toArray, List.map_cons, List.map_nil]); first | done | rfl | (simp only [List.length_drop, List.length_take]; rfl)) ?_; (with_reducible refine (attr_Within.calls a0_0 _ _ l0_1 a2_0 _ _ l2_1 true _ ?side1 ?side2 ?side3 ?side4 A95.out).mono ?_); (case side1 => repeat (first | exact (Kd.V_reads' HO_236001.out).2.2 | (with_reducible refine Kd.C_alloc ?_ _) | (with_reducible refine Kd.C_drewN ?_ _) | (with_reducible refine Kd.C_drew ?_))); (case side2 => exact (Kd.V_reads' HO_236001.out).2.1); (case side3 => repeat (first | exact (Kd.V_reads' HO_238001.out).2.2 | (with_reducible refine Kd.C_alloc ?_ _) | (with_reducible refine Kd.C_drewN ?_ _) | (with_reducible refine Kd.C_drew ?_))); (case side4 => exact (Kd.V_reads' HO_238001.out).2.1); rintro e w122 ⟨rfl, hb⟩; refine ⟨_, rfl, ?_⟩; have n0_ := Aside0.mk (Kd.V_below (Kd.vk HO_236001) hb); have n1_ := Aside0.mk (Kd.V_below (Kd.vk HO_237001) hb); have n2_ := Aside0.mk (Kd.V_below (Kd.vk HO_238001) hb); have n3_ := Aside0.mk (Kd.N_below (Kd.nk HO244) hb); have n4_ := Aside0.mk (Kd.V_below (Kd.vk HO248) hb); have n5_ := Aside0.mk (Kd.N_below (Kd.nk HO252) hb); have n6_ := Aside0.mk (Kd.V_below (Kd.vk HO256) hb); have n7_ := Aside0.mk (Kd.N_below (Kd.nk HO260) hb); have n8_ := Aside0.mk (Kd.V_below (Kd.vk HO264) hb); have n9_ := Aside0.mk (Kd.N_below (Kd.nk HO268) hb); have n10_ := Aside0.mk (Kd.V_below (Kd.vk HO272) hb); have n11_ := Aside0.mk (Kd.N_below (Kd.nk HO275) hb); have n12_ := Aside0.mk (Kd.V_below (Kd.vk HO279) hb); have n13_ := Aside0.mk (Kd.N_below (Kd.nk HO282) hb); have n14_ := Aside0.mk (Kd.V_below (Kd.vk HO286) hb); have n15_ := Aside0.mk (blk_below (g := gb235) (bk BK235) hb); have n16_ := Aside0.mk (blk_below (g := gb236) (bk BK236) hb); have n17_ := Aside0.mk (blk_below (g := gb237) (bk BK237) hb); have n18_ := Aside0.mk (blk_below (g := gb249) (bk BK249) hb); have n19_ := Aside0.mk (below_step (gw_ HB) hb); clear HO_236001; clear HO_237001; clear HO_238001; clear HO244; clear HO248; clear HO252; clear HO256; clear HO260; clear HO264; clear HO268; clear HO272; clear HO275; clear HO279; clear HO282; clear HO286; clear BK235; clear BK236; clear BK237; clear BK249; clear HB; have HO_236001 := n0_; have HO_237001 := n1_; have HO_238001 := n2_; have HO244 := n3_; have HO248 := n4_; have HO252 := n5_; have HO256 := n6_; have HO260 := n7_; have HO264 := n8_; have HO268 := n9_; have HO272 := n10_; have HO275 := n11_; have HO279 := n12_; have HO282 := n13_; have HO286 := n14_; have BK235 := n15_; have BK236 := n16_; have BK237 := n17_; have BK249 := n18_; have HB := n19_; clear n0_ n1_ n2_ n3_ n4_ n5_ n6_ n7_ n8_ n9_ n10_ n11_ n12_ n13_ n14_ n15_ n16_ n17_ n18_ n19_; (try clear hb); (try clear hb2); (try clear hk); (try clear hi); have hnb123 := NB236_249.out; have hnc123 := NB249_236.out; obtain ⟨hcz124_0, hcz124_1⟩ := blk_cells2 BK236.out; obtain ⟨hfz124_0, hfz124_1⟩ := blk_frozens2 BK236.out; obtain ⟨hcz125_0, hcz125_1⟩ := blk_cells2 BK237.out; obtain ⟨hfz125_0, hfz125_1⟩ := blk_frozens2 BK237.out) | (go_at_call 15; (with_reducible refine (attr_Within.calls a1_0 _ _ l1_1 a2_0 _ _ l2_1 false _ ?side1 ?side2 ?side3 ?side4 A97.out).mono ?_); (case side1 => repeat (first | exact (Kd.V_reads' HO_237001.out).2.2 | (with_reducible refine Kd.C_alloc ?_ _) | (with_reducible refine Kd.C_drewN ?_ _) | (with_reducible refine Kd.C_drew ?_))); (case side2 => exact (Kd.V_reads' HO_237001.out).2.1); (case side3 => repeat (first | exact (Kd.V_reads' HO_238001.out).2.2 | (with_reducible refine Kd.C_alloc ?_ _) | (with_reducible refine Kd.C_drewN ?_ _) | (with_reducible refine Kd.C_drew ?_))); (case side4 => exact (Kd.V_reads' HO_238001.out).2.1); rintro e w126 ⟨rfl, hb⟩; have n0_ := Aside0.mk (Kd.V_below (Kd.vk HO_236001) hb); have n1_ := Aside0.mk (Kd.V_below (Kd.vk HO_237001) hb); have n2_ := Aside0.mk (Kd.V_below (Kd.vk HO_238001) hb); have n3_ := Aside0.mk (Kd.N_below (Kd.nk HO244) hb); have n4_ := Aside0.mk (Kd.V_below (Kd.vk HO248) hb); have n5_ := Aside0.mk (Kd.N_below (Kd.nk HO252) hb); have n6_ := Aside0.mk (Kd.V_below (Kd.vk HO256) hb); have n7_ := Aside0.mk (Kd.N_below (Kd.nk HO260) hb); have n8_ := Aside0.mk (Kd.V_below (Kd.vk HO264) hb); have n9_ := Aside0.mk (Kd.N_below (Kd.nk HO268) hb); have n10_ := Aside0.mk (Kd.V_below (Kd.vk HO272) hb); have n11_ := Aside0.mk (Kd.N_below (Kd.nk HO275) hb); have n12_ := Aside0.mk (Kd.V_below (Kd.vk HO279) hb); have n13_ := Aside0.mk (Kd.N_below (Kd.nk HO282) hb); have n14_ := Aside0.mk (Kd.V_below (Kd.vk HO286) hb); have n15_ := Aside0.mk (blk_below (g := gb235) (bk BK235) hb); have n16_ := Aside0.mk (blk_below (g := gb236) (bk BK236) hb); have n17_ := Aside0.mk (blk_below (g := gb237) (bk BK237) hb); have n18_ := Aside0.mk (blk_below (g := gb249) (bk BK249) hb); have n19_ := Aside0.mk (below_step (gw_ HB) hb); clear HO_236001; clear HO_237001; clear HO_238001; clear HO244; clear HO248; clear HO252; clear HO256; clear HO260; clear HO264; clear HO268; clear HO272; clear HO275; clear HO279; clear HO282; clear HO286; clear BK235; clear BK236; clear BK237; clear BK249; clear HB; have HO_236001 := n0_; have HO_237001 := n1_; have HO_238001 := n2_; have HO244 := n3_; have HO248 := n4_; have HO252 := n5_; have HO256 := n6_; have HO260 := n7_; have HO264 := n8_; have HO268 := n9_; have HO272 := n10_; have HO275 := n11_; have HO279 := n12_; have HO282 := n13_; have HO286 := n14_; have BK235 := n15_; have BK236 := n16_; have BK237 := n17_; have BK249 := n18_; have HB := n19_; clear n0_ n1_ n2_ n3_ n4_ n5_ n6_ n7_ n8_ n9_ n10_ n11_ n12_ n13_ n14_ n15_ n16_ n17_ n18_ n19_; (try clear hb); (try clear hb2); (try clear hk); (try clear hi)))
       go_meet
       case rel => exact ⟨_, (true), (by first | rfl | (simp; done) | (simp [*]; done)), H', ⟨by have := HJ4.out; first | omega | exact Nat.le_refl _⟩, ⟨by (with_reducible repeat (first | apply Kd.V_alloc | apply Kd.V_drewN | apply Kd.V_drew)); exact Kd.V_mono HO_236001.out (fun _ hk => (by first | exact ⟨hk.1, ⟨hk.2.2.2.2.2.2.2.1, ⟨hk.2.2.2.2.2.2.2.2.1, ⟨hk.2.2.2.2.2.2.2.2.2.1, hk.2.2.2.2.2.2.2.2.2.2⟩⟩⟩⟩ | simp [hk]))⟩, ⟨by (with_reducible repeat (first | apply Kd.V_alloc | apply Kd.V_drewN | apply Kd.V_drew)); exact Kd.V_mono HO_237001.out (fun _ hk => (by first | exact ⟨hk.1, ⟨hk.2.2.2.2.2.2.2.1, ⟨hk.2.2.2.2.2.2.2.2.1, ⟨hk.2.2.2.2.2.2.2.2.2.1, hk.2.2.2.2.2.2.2.2.2.2⟩⟩⟩⟩ | simp [hk]))⟩, ⟨by (with_reducible repeat (first | apply Kd.V_alloc | apply Kd.V_drewN | apply Kd.V_drew)); exact Kd.V_mono HO_238001.out (fun _ hk => (by first | exact ⟨hk.1, ⟨hk.2.2.2.2.2.2.2.1, ⟨hk.2.2.2.2.2.2.2.2.1, ⟨hk.2.2.2.2.2.2.2.2.2.1, hk.2.2.2.2.2.2.2.2.2.2⟩⟩⟩⟩ | simp [hk]))⟩, ⟨by (with_reducible repeat (first | apply Kd.V_alloc | apply Kd.V_drewN | apply Kd.V_drew)); exact Kd.V_mono HO248.out (fun _ hk => (by first | exact ⟨hk.1, ⟨hk.2.2.2.2.2.2.2.1, ⟨hk.2.2.2.2.2.2.2.2.1, ⟨hk.2.2.2.2.2.2.2.2.2.1, hk.2.2.2.2.2.2.2.2.2.2⟩⟩⟩⟩ | simp [hk]))⟩, ⟨by (with_reducible repeat (first | refine blk_drewN ?_ _ | refine blk_drew ?_ | refine blk_alloc ?_ _)); exact BK235.out⟩, ⟨by (with_reducible repeat (first | refine blk_drewN ?_ _ | refine blk_drew ?_ | refine blk_alloc ?_ _)); exact BK236.out⟩, ⟨by (with_reducible repeat (first | refine blk_drewN ?_ _ | refine blk_drew ?_ | refine blk_alloc ?_ _)); exact BK237.out⟩, ⟨by (with_reducible repeat (first | refine blk_drewN ?_ _ | refine blk_drew ?_ | refine blk_alloc ?_ _)); exact BK249.out⟩, ⟨gw_ HB⟩⟩
     ·
      replace c96 := Bool.eq_false_iff.mpr c96
      subst c96
      have H1 : (colloquylaw06_AttrJoins.j1 kj4 t257 t265 t287 true a0_0 l0_1 a1_0 l1_1 t245 t246) = some r := by rw [if_neg (show ¬ (false = true) by decide)] at H; exact H
      clear H
      have H := H1
      clear H1
      have H' := Aside0.mk H
      clear H
      have hnb127 := NB235_236.out
      have hnc127 := NB236_235.out
      have hnb128 := NB235_237.out
      have hnc128 := NB237_235.out
      have hnb129 := NB235_249.out
      have hnc129 := NB249_235.out
      obtain ⟨hcz130_0, hcz130_1⟩ := blk_cells2 BK235.out
      obtain ⟨hfz130_0, hfz130_1⟩ := blk_frozens2 BK235.out
      have hnb131 := NB237_236.out
      have hnc131 := NB236_237.out
      have hnb132 := NB237_249.out
      have hnc132 := NB249_237.out
      obtain ⟨hcz133_0, hcz133_1⟩ := blk_cells2 BK237.out
      obtain ⟨hfz133_0, hfz133_1⟩ := blk_frozens2 BK237.out
      go_wp2_with (first | ((with_reducible refine gate_callee (f := 15) rfl ?_); refine goesL_ (some 64) rfl rfl Try.func15 (by kernel_rfl) rfl #[.agg #[.int .i64 a0_0, .slice A0_1 l0_1.length c0_1], .agg #[.int .i64 a2_0, .slice A2_1 l2_1.length c2_1]] rfl (by (try simp only [List.map_toArray, List.map_cons, List.map_nil]); first | done | rfl | (simp only [List.length_drop, List.length_take]; rfl)) ?_; (with_reducible refine (attr_Within.calls a0_0 _ _ l0_1 a2_0 _ _ l2_1 false _ ?side1 ?side2 ?side3 ?side4 A95.out).mono ?_); (case side1 => repeat (first | exact (Kd.V_reads' HO_236001.out).2.2 | (with_reducible refine Kd.C_alloc ?_ _) | (with_reducible refine Kd.C_drewN ?_ _) | (with_reducible refine Kd.C_drew ?_))); (case side2 => exact (Kd.V_reads' HO_236001.out).2.1); (case side3 => repeat (first | exact (Kd.V_reads' HO_238001.out).2.2 | (with_reducible refine Kd.C_alloc ?_ _) | (with_reducible refine Kd.C_drewN ?_ _) | (with_reducible refine Kd.C_drew ?_))); (case side4 => exact (Kd.V_reads' HO_238001.out).2.1); rintro e w134 ⟨rfl, hb⟩; refine ⟨_, rfl, ?_⟩; have n0_ := Aside0.mk (Kd.V_below (Kd.vk HO_236001) hb); have n1_ := Aside0.mk (Kd.V_below (Kd.vk HO_237001) hb); have n2_ := Aside0.mk (Kd.V_below (Kd.vk HO_238001) hb); have n3_ := Aside0.mk (Kd.N_below (Kd.nk HO244) hb); have n4_ := Aside0.mk (Kd.V_below (Kd.vk HO248) hb); have n5_ := Aside0.mk (Kd.N_below (Kd.nk HO252) hb); have n6_ := Aside0.mk (Kd.V_below (Kd.vk HO256) hb); have n7_ := Aside0.mk (Kd.N_below (Kd.nk HO260) hb); have n8_ := Aside0.mk (Kd.V_below (Kd.vk HO264) hb); have n9_ := Aside0.mk (Kd.N_below (Kd.nk HO268) hb); have n10_ := Aside0.mk (Kd.V_below (Kd.vk HO272) hb); have n11_ := Aside0.mk (Kd.N_below (Kd.nk HO275) hb); have n12_ := Aside0.mk (Kd.V_below (Kd.vk HO279) hb); have n13_ := Aside0.mk (Kd.N_below (Kd.nk HO282) hb); have n14_ := Aside0.mk (Kd.V_below (Kd.vk HO286) hb); have n15_ := Aside0.mk (blk_below (g := gb235) (bk BK235) hb); have n16_ := Aside0.mk (blk_below (g := gb236) (bk BK236) hb); have n17_ := Aside0.mk (blk_below (g := gb237) (bk BK237) hb); have n18_ := Aside0.mk (blk_below (g := gb249) (bk BK249) hb); have n19_ := Aside0.mk (below_step (gw_ HB) hb); clear HO_236001; clear HO_237001; clear HO_238001; clear HO244; clear HO248; clear HO252; clear HO256; clear HO260; clear HO264; clear HO268; clear HO272; clear HO275; clear HO279; clear HO282; clear HO286; clear BK235; clear BK236; clear BK237; clear BK249; clear HB; have HO_236001 := n0_; have HO_237001 := n1_; have HO_238001 := n2_; have HO244 := n3_; have HO248 := n4_; have HO252 := n5_; have HO256 := n6_; have HO260 := n7_; have HO264 := n8_; have HO268 := n9_; have HO272 := n10_; have HO275 := n11_; have HO279 := n12_; have HO282 := n13_; have HO286 := n14_; have BK235 := n15_; have BK236 := n16_; have BK237 := n17_; have BK249 := n18_; have HB := n19_; clear n0_ n1_ n2_ n3_ n4_ n5_ n6_ n7_ n8_ n9_ n10_ n11_ n12_ n13_ n14_ n15_ n16_ n17_ n18_ n19_; (try clear hb); (try clear hb2); (try clear hk); (try clear hi)))
      go_meet
      case rel => exact ⟨_, (true), (by first | rfl | (simp; done) | (simp [*]; done)), H', ⟨by have := HJ4.out; first | omega | exact Nat.le_refl _⟩, ⟨by (with_reducible repeat (first | apply Kd.V_alloc | apply Kd.V_drewN | apply Kd.V_drew)); exact Kd.V_mono HO_236001.out (fun _ hk => (by first | exact ⟨hk.1, ⟨hk.2.2.2.2.2.2.2.1, ⟨hk.2.2.2.2.2.2.2.2.1, ⟨hk.2.2.2.2.2.2.2.2.2.1, hk.2.2.2.2.2.2.2.2.2.2⟩⟩⟩⟩ | simp [hk]))⟩, ⟨by (with_reducible repeat (first | apply Kd.V_alloc | apply Kd.V_drewN | apply Kd.V_drew)); exact Kd.V_mono HO_237001.out (fun _ hk => (by first | exact ⟨hk.1, ⟨hk.2.2.2.2.2.2.2.1, ⟨hk.2.2.2.2.2.2.2.2.1, ⟨hk.2.2.2.2.2.2.2.2.2.1, hk.2.2.2.2.2.2.2.2.2.2⟩⟩⟩⟩ | simp [hk]))⟩, ⟨by (with_reducible repeat (first | apply Kd.V_alloc | apply Kd.V_drewN | apply Kd.V_drew)); exact Kd.V_mono HO_238001.out (fun _ hk => (by first | exact ⟨hk.1, ⟨hk.2.2.2.2.2.2.2.1, ⟨hk.2.2.2.2.2.2.2.2.1, ⟨hk.2.2.2.2.2.2.2.2.2.1, hk.2.2.2.2.2.2.2.2.2.2⟩⟩⟩⟩ | simp [hk]))⟩, ⟨by (with_reducible repeat (first | apply Kd.V_alloc | apply Kd.V_drewN | apply Kd.V_drew)); exact Kd.V_mono HO248.out (fun _ hk => (by first | exact ⟨hk.1, ⟨hk.2.2.2.2.2.2.2.1, ⟨hk.2.2.2.2.2.2.2.2.1, ⟨hk.2.2.2.2.2.2.2.2.2.1, hk.2.2.2.2.2.2.2.2.2.2⟩⟩⟩⟩ | simp [hk]))⟩, ⟨by (with_reducible repeat (first | refine blk_drewN ?_ _ | refine blk_drew ?_ | refine blk_alloc ?_ _)); exact BK235.out⟩, ⟨by (with_reducible repeat (first | refine blk_drewN ?_ _ | refine blk_drew ?_ | refine blk_alloc ?_ _)); exact BK236.out⟩, ⟨by (with_reducible repeat (first | refine blk_drewN ?_ _ | refine blk_drew ?_ | refine blk_alloc ?_ _)); exact BK237.out⟩, ⟨by (with_reducible repeat (first | refine blk_drewN ?_ _ | refine blk_drew ?_ | refine blk_alloc ?_ _)); exact BK249.out⟩, ⟨gw_ HB⟩⟩
    case rest =>
     clear HC46
     try clear c1
     try clear c2
     try clear p2
     try clear c9
     try clear c10
     try clear c11
     try clear c12
     try clear c13
     try clear c15
     try clear c16
     try clear c96
     try clear c98
     try clear c100
     try clear c101
     try clear c102
     try clear c104
     try clear c105
     try clear c108
     try clear c115
     try clear c116
     try clear c117
     try clear c119
     try clear c120
     try clear c123
     try clear c127
     try clear c128
     try clear c129
     try clear c131
     try clear c132
     try clear hcz103_0
     try clear hcz103_1
     try clear hcz106_0
     try clear hcz106_1
     try clear hcz109_0
     try clear hcz109_1
     try clear hcz110_0
     try clear hcz110_1
     try clear hcz112_0
     try clear hcz112_1
     try clear hcz113_0
     try clear hcz113_1
     try clear hcz118_0
     try clear hcz118_1
     try clear hcz121_0
     try clear hcz121_1
     try clear hcz124_0
     try clear hcz124_1
     try clear hcz125_0
     try clear hcz125_1
     try clear hcz130_0
     try clear hcz130_1
     try clear hcz133_0
     try clear hcz133_1
     try clear hfz103_0
     try clear hfz103_1
     try clear hfz106_0
     try clear hfz106_1
     try clear hfz109_0
     try clear hfz109_1
     try clear hfz110_0
     try clear hfz110_1
     try clear hfz112_0
     try clear hfz112_1
     try clear hfz113_0
     try clear hfz113_1
     try clear hfz118_0
     try clear hfz118_1
     try clear hfz121_0
     try clear hfz121_1
     try clear hfz124_0
     try clear hfz124_1
     try clear hfz125_0
     try clear hfz125_1
     try clear hfz130_0
     try clear hfz130_1
     try clear hfz133_0
     try clear hfz133_1
     obtain ⟨kq, x12_45, rfl, HA, HJ45, HO_236001, HO_237001, HO_238001, HO_250001, BK235, BK236, BK237, BK249, HB⟩ := hcut
     cases kq with
     | zero => exact absurd HA.out (by simp [colloquylaw06_AttrJoins.j1])
     | succ kj45 =>
      have H := HA.out
      clear HA
      simp only [colloquylaw06_AttrJoins.j1] at H
      by_cases c135 : t257 = true
      ·
       subst c135
       have H1 : (if t265 = true then (if t287 = true then (if x12_45 = true then ((attr_Within.f a0_0 l0_1 t245 t246).bind fun t291 => (if t291 = true then ((attr_Within.f a1_0 l1_1 t245 t246).bind fun t292 => (if t292 = true then ((attr_May.f kj45 t245 t246 7).bind fun t293 => (some t293)) else (some false))) else (some false))) else (some false)) else (some false)) else (some false)) = some r := by rw [if_pos rfl] at H; exact H
       clear H
       have H := H1
       clear H1
       by_cases c136 : t265 = true
       ·
        subst c136
        have H1 : (if t287 = true then (if x12_45 = true then ((attr_Within.f a0_0 l0_1 t245 t246).bind fun t291 => (if t291 = true then ((attr_Within.f a1_0 l1_1 t245 t246).bind fun t292 => (if t292 = true then ((attr_May.f kj45 t245 t246 7).bind fun t293 => (some t293)) else (some false))) else (some false))) else (some false)) else (some false)) = some r := by rw [if_pos rfl] at H; exact H
        clear H
        have H := H1
        clear H1
        by_cases c137 : t287 = true
        ·
         subst c137
         have H1 : (if x12_45 = true then ((attr_Within.f a0_0 l0_1 t245 t246).bind fun t291 => (if t291 = true then ((attr_Within.f a1_0 l1_1 t245 t246).bind fun t292 => (if t292 = true then ((attr_May.f kj45 t245 t246 7).bind fun t293 => (some t293)) else (some false))) else (some false))) else (some false)) = some r := by rw [if_pos rfl] at H; exact H
         clear H
         have H := H1
         clear H1
         by_cases c138 : x12_45 = true
         ·
          subst c138
          have H1 : ((attr_Within.f a0_0 l0_1 t245 t246).bind fun t291 => (if t291 = true then ((attr_Within.f a1_0 l1_1 t245 t246).bind fun t292 => (if t292 = true then ((attr_May.f kj45 t245 t246 7).bind fun t293 => (some t293)) else (some false))) else (some false))) = some r := by rw [if_pos rfl] at H; exact H
          clear H
          have H := H1
          clear H1
          replace H := Option.bind_eq_some_iff.mp H
          obtain ⟨t291, A1390, H⟩ := H
          replace H : (if t291 = true then ((attr_Within.f a1_0 l1_1 t245 t246).bind fun t292 => (if t292 = true then ((attr_May.f kj45 t245 t246 7).bind fun t293 => (some t293)) else (some false))) else (some false)) = some r := H
          have A139 := Aside0.mk A1390
          clear A1390
          by_cases c140 : t291 = true
          ·
           subst c140
           have H1 : ((attr_Within.f a1_0 l1_1 t245 t246).bind fun t292 => (if t292 = true then ((attr_May.f kj45 t245 t246 7).bind fun t293 => (some t293)) else (some false))) = some r := by rw [if_pos rfl] at H; exact H
           clear H
           have H := H1
           clear H1
           replace H := Option.bind_eq_some_iff.mp H
           obtain ⟨t292, A1410, H⟩ := H
           replace H : (if t292 = true then ((attr_May.f kj45 t245 t246 7).bind fun t293 => (some t293)) else (some false)) = some r := H
           have A141 := Aside0.mk A1410
           clear A1410
           by_cases c142 : t292 = true
           ·
            subst c142
            have H1 : ((attr_May.f kj45 t245 t246 7).bind fun t293 => (some t293)) = some r := by rw [if_pos rfl] at H; exact H
            clear H
            have H := H1
            clear H1
            replace H := Option.bind_eq_some_iff.mp H
            obtain ⟨t293, A1430, H⟩ := H
            replace H : (some t293) = some r := H
            have A143 := Aside0.mk A1430
            clear A1430
            obtain rfl := Option.some.inj H
            have hnb144 := NB235_236.out
            have hnc144 := NB236_235.out
            have hnb145 := NB235_237.out
            have hnc145 := NB237_235.out
            have hnb146 := NB235_249.out
            have hnc146 := NB249_235.out
            obtain ⟨hcz147_0, hcz147_1⟩ := blk_cells2 BK235.out
            obtain ⟨hfz147_0, hfz147_1⟩ := blk_frozens2 BK235.out
            have hnb148 := NB249_236.out
            have hnc148 := NB236_249.out
            have hnb149 := NB249_237.out
            have hnc149 := NB237_249.out
            obtain ⟨hcz150_0, hcz150_1⟩ := blk_cells2 BK249.out
            obtain ⟨hfz150_0, hfz150_1⟩ := blk_frozens2 BK249.out
            go_wp2_with (first | (go_at_call 15; (with_reducible refine (attr_Within.calls a0_0 _ _ l0_1 t245 _ _ t246 true _ ?side1 ?side2 ?side3 ?side4 A139.out).mono ?_); (case side1 => repeat (first | exact (Kd.V_reads' HO_236001.out).2.2 | (with_reducible refine Kd.C_alloc ?_ _) | (with_reducible refine Kd.C_drewN ?_ _) | (with_reducible refine Kd.C_drew ?_))); (case side2 => exact (Kd.V_reads' HO_236001.out).2.1); (case side3 => repeat (first | exact (Kd.V_reads' HO_250001.out).2.2 | (with_reducible refine Kd.C_alloc ?_ _) | (with_reducible refine Kd.C_drewN ?_ _) | (with_reducible refine Kd.C_drew ?_))); (case side4 => exact (Kd.V_reads' HO_250001.out).2.1); rintro e w151 ⟨rfl, hb⟩; have n0_ := Aside0.mk (Kd.V_below (Kd.vk HO_236001) hb); have n1_ := Aside0.mk (Kd.V_below (Kd.vk HO_237001) hb); have n2_ := Aside0.mk (Kd.V_below (Kd.vk HO_238001) hb); have n3_ := Aside0.mk (Kd.V_below (Kd.vk HO_250001) hb); have n4_ := Aside0.mk (blk_below (g := gb235) (bk BK235) hb); have n5_ := Aside0.mk (blk_below (g := gb236) (bk BK236) hb); have n6_ := Aside0.mk (blk_below (g := gb237) (bk BK237) hb); have n7_ := Aside0.mk (blk_below (g := gb249) (bk BK249) hb); have n8_ := Aside0.mk (below_step (gw_ HB) hb); clear HO_236001; clear HO_237001; clear HO_238001; clear HO_250001; clear BK235; clear BK236; clear BK237; clear BK249; clear HB; have HO_236001 := n0_; have HO_237001 := n1_; have HO_238001 := n2_; have HO_250001 := n3_; have BK235 := n4_; have BK236 := n5_; have BK237 := n6_; have BK249 := n7_; have HB := n8_; clear n0_ n1_ n2_ n3_ n4_ n5_ n6_ n7_ n8_; (try clear hb); (try clear hb2); (try clear hk); (try clear hi); have hnb152 := NB236_237.out; have hnc152 := NB237_236.out; obtain ⟨hcz153_0, hcz153_1⟩ := blk_cells2 BK236.out; obtain ⟨hfz153_0, hfz153_1⟩ := blk_frozens2 BK236.out; obtain ⟨hcz154_0, hcz154_1⟩ := blk_cells2 BK249.out; obtain ⟨hfz154_0, hfz154_1⟩ := blk_frozens2 BK249.out) | (go_at_call 15; (with_reducible refine (attr_Within.calls a1_0 _ _ l1_1 t245 _ _ t246 true _ ?side1 ?side2 ?side3 ?side4 A141.out).mono ?_); (case side1 => repeat (first | exact (Kd.V_reads' HO_237001.out).2.2 | (with_reducible refine Kd.C_alloc ?_ _) | (with_reducible refine Kd.C_drewN ?_ _) | (with_reducible refine Kd.C_drew ?_))); (case side2 => exact (Kd.V_reads' HO_237001.out).2.1); (case side3 => repeat (first | exact (Kd.V_reads' HO_250001.out).2.2 | (with_reducible refine Kd.C_alloc ?_ _) | (with_reducible refine Kd.C_drewN ?_ _) | (with_reducible refine Kd.C_drew ?_))); (case side4 => exact (Kd.V_reads' HO_250001.out).2.1); rintro e w155 ⟨rfl, hb⟩; have n0_ := Aside0.mk (Kd.V_below (Kd.vk HO_236001) hb); have n1_ := Aside0.mk (Kd.V_below (Kd.vk HO_237001) hb); have n2_ := Aside0.mk (Kd.V_below (Kd.vk HO_238001) hb); have n3_ := Aside0.mk (Kd.V_below (Kd.vk HO_250001) hb); have n4_ := Aside0.mk (blk_below (g := gb235) (bk BK235) hb); have n5_ := Aside0.mk (blk_below (g := gb236) (bk BK236) hb); have n6_ := Aside0.mk (blk_below (g := gb237) (bk BK237) hb); have n7_ := Aside0.mk (blk_below (g := gb249) (bk BK249) hb); have n8_ := Aside0.mk (below_step (gw_ HB) hb); clear HO_236001; clear HO_237001; clear HO_238001; clear HO_250001; clear BK235; clear BK236; clear BK237; clear BK249; clear HB; have HO_236001 := n0_; have HO_237001 := n1_; have HO_238001 := n2_; have HO_250001 := n3_; have BK235 := n4_; have BK236 := n5_; have BK237 := n6_; have BK249 := n7_; have HB := n8_; clear n0_ n1_ n2_ n3_ n4_ n5_ n6_ n7_ n8_; (try clear hb); (try clear hb2); (try clear hk); (try clear hi); obtain ⟨hcz156_0, hcz156_1⟩ := blk_cells2 BK249.out; obtain ⟨hfz156_0, hfz156_1⟩ := blk_frozens2 BK249.out) | (go_at_call 17; (with_reducible refine (attr_May.calls kj45 t245 _ _ t246 7 t293 _ ?side1 ?side2 A143.out).mono ?_); (case side1 => repeat (first | exact (Kd.V_reads' HO_250001.out).2.2 | (with_reducible refine Kd.C_alloc ?_ _) | (with_reducible refine Kd.C_drewN ?_ _) | (with_reducible refine Kd.C_drew ?_))); (case side2 => exact (Kd.V_reads' HO_250001.out).2.1); rintro e w157 ⟨rfl, hb⟩; have n0_ := Aside0.mk (Kd.V_below (Kd.vk HO_236001) hb); have n1_ := Aside0.mk (Kd.V_below (Kd.vk HO_237001) hb); have n2_ := Aside0.mk (Kd.V_below (Kd.vk HO_238001) hb); have n3_ := Aside0.mk (Kd.V_below (Kd.vk HO_250001) hb); have n4_ := Aside0.mk (blk_below (g := gb235) (bk BK235) hb); have n5_ := Aside0.mk (blk_below (g := gb236) (bk BK236) hb); have n6_ := Aside0.mk (blk_below (g := gb237) (bk BK237) hb); have n7_ := Aside0.mk (blk_below (g := gb249) (bk BK249) hb); have n8_ := Aside0.mk (below_step (gw_ HB) hb); clear HO_236001; clear HO_237001; clear HO_238001; clear HO_250001; clear BK235; clear BK236; clear BK237; clear BK249; clear HB; have HO_236001 := n0_; have HO_237001 := n1_; have HO_238001 := n2_; have HO_250001 := n3_; have BK235 := n4_; have BK236 := n5_; have BK237 := n6_; have BK249 := n7_; have HB := n8_; clear n0_ n1_ n2_ n3_ n4_ n5_ n6_ n7_ n8_; (try clear hb); (try clear hb2); (try clear hk); (try clear hi)))
            go_ret
            exact ⟨by first | rfl | (simp [errW_none, errW_some] <;> rfl) | (simp [*, errW_none, errW_some] <;> rfl), gw_ HB⟩
           ·
            replace c142 := Bool.eq_false_iff.mpr c142
            subst c142
            have H1 : (some false) = some r := by rw [if_neg (show ¬ (false = true) by decide)] at H; exact H
            clear H
            have H := H1
            clear H1
            exact absurd (Option.some.inj H) (by rw [HRT.out]; decide)
          ·
           replace c140 := Bool.eq_false_iff.mpr c140
           subst c140
           have H1 : (some false) = some r := by rw [if_neg (show ¬ (false = true) by decide)] at H; exact H
           clear H
           have H := H1
           clear H1
           exact absurd (Option.some.inj H) (by rw [HRT.out]; decide)
         ·
          replace c138 := Bool.eq_false_iff.mpr c138
          subst c138
          have H1 : (some false) = some r := by rw [if_neg (show ¬ (false = true) by decide)] at H; exact H
          clear H
          have H := H1
          clear H1
          exact absurd (Option.some.inj H) (by rw [HRT.out]; decide)
        ·
         replace c137 := Bool.eq_false_iff.mpr c137
         subst c137
         have H1 : (some false) = some r := by rw [if_neg (show ¬ (false = true) by decide)] at H; exact H
         clear H
         have H := H1
         clear H1
         exact absurd (Option.some.inj H) (by rw [HRT.out]; decide)
       ·
        replace c136 := Bool.eq_false_iff.mpr c136
        subst c136
        have H1 : (some false) = some r := by rw [if_neg (show ¬ (false = true) by decide)] at H; exact H
        clear H
        have H := H1
        clear H1
        exact absurd (Option.some.inj H) (by rw [HRT.out]; decide)
      ·
       replace c135 := Bool.eq_false_iff.mpr c135
       subst c135
       have H1 : (some false) = some r := by rw [if_neg (show ¬ (false = true) by decide)] at H; exact H
       clear H
       have H := H1
       clear H1
       exact absurd (Option.some.inj H) (by rw [HRT.out]; decide)

end Go.Proofs.Ytolfjfepehmfgaa.P
