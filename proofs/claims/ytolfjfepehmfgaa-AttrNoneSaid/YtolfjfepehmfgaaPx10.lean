/- Plain Lean functions and their contracts over the translation, written by a program of this session (myprint.py, over the kit's print); no condition but each contract's own. -/
import Derived.Test.YtolfjfepehmfgaaPx0
import Derived.Test.YtolfjfepehmfgaaPx1
import Derived.Test.YtolfjfepehmfgaaPx4
import Derived.Test.YtolfjfepehmfgaaPx5
import Derived.Test.YtolfjfepehmfgaaPx7
namespace Go.Proofs.Ytolfjfepehmfgaa.P
open Go.RowKit Go.Proofs.YtolfjfepehmfgaaW.PrintWords Go.Proofs.YtolfjfepehmfgaaW.PrintLast Go.Proofs.YtolfjfepehmfgaaW.PrintMore
attribute [local go_sem] max2_int min2_int max_two min_two max_three min_three max_four min_four   -- for this text's walks alone
set_option linter.unusedVariables false
set_option linter.unusedSimpArgs false

abbrev q8_0 : Array Bool := #[false, false, false, false, false, false, false, false, false, false, false, false, false, false, false, false, false, false, false, false, false, false, false, false, false, false, false, false, false, false, false, false, false, false, false, false, false]
abbrev q8_1 : Array Bool := #[true, false, false, false, false, false, false, false, false, false, false, false, false, false, false, false, false, false, false, false, false, false, false, false, false, false, false, false, false, false, false, false, false, false, false, false, false]
abbrev q8_2 : Array Bool := #[true, true, false, false, false, false, false, false, false, false, false, false, false, false, false, false, false, false, false, false, false, false, false, false, false, false, false, false, false, false, false, false, false, false, false, false, false]
abbrev q8_3 : Array Bool := #[true, true, true, false, false, false, false, false, false, false, false, false, false, false, false, false, false, false, false, false, false, false, false, false, false, false, false, false, false, false, false, false, false, false, false, false, false]
abbrev q8_4 : Array Bool := #[true, true, true, true, false, false, false, false, false, false, false, false, false, false, false, false, false, false, false, false, false, false, false, false, false, false, false, false, false, false, false, false, false, false, false, false, false]
abbrev q8_5 : Array Bool := #[true, true, true, true, true, false, false, false, false, false, false, false, false, false, false, false, false, false, false, false, false, false, false, false, false, false, false, false, false, false, false, false, false, false, false, false, false]
abbrev q8_6 : Array Bool := #[true, true, true, true, true, true, false, false, false, false, false, false, false, false, false, false, false, false, false, false, false, false, false, false, false, false, false, false, false, false, false, false, false, false, false, false, false]
abbrev q8_7 : Array Bool := #[true, true, true, true, true, true, true, false, false, false, false, false, false, false, false, false, false, false, false, false, false, false, false, false, false, false, false, false, false, false, false, false, false, false, false, false, false]
abbrev q8_8 : Array Bool := #[true, true, true, true, true, true, true, true, false, false, false, false, false, false, false, false, false, false, false, false, false, false, false, false, false, false, false, false, false, false, false, false, false, false, false, false, false]
abbrev q8_9 : Array Bool := #[true, true, true, true, true, true, true, true, true, false, false, false, false, false, false, false, false, false, false, false, false, false, false, false, false, false, false, false, false, false, false, false, false, false, false, false, false]
abbrev q8_10 : Array Bool := #[true, true, true, true, true, true, true, true, true, false, true, false, false, false, false, false, false, false, false, false, false, false, false, false, false, false, false, false, false, false, false, false, false, false, false, false, false]
abbrev q8_11 : Array Bool := #[true, true, true, true, true, true, true, true, true, true, true, false, false, false, false, false, false, false, false, false, false, false, false, false, false, false, false, false, false, false, false, false, false, false, false, false, false]
abbrev q8_12 : Array Bool := #[true, true, true, true, true, true, true, true, true, true, true, false, false, true, false, false, false, false, false, false, false, false, false, false, false, false, false, false, false, false, false, false, false, false, false, false, false]
abbrev q8_13 : Array Bool := #[true, true, true, true, true, true, true, true, true, true, true, true, false, true, false, false, false, false, false, false, false, false, false, false, false, false, false, false, false, false, false, false, false, false, false, false, false]
abbrev q8_14 : Array Bool := #[true, true, true, true, true, true, true, true, true, true, true, true, true, true, false, false, false, false, false, false, false, false, false, false, false, false, false, false, false, false, false, false, false, false, false, false, false]
abbrev q8_15 : Array Bool := #[true, true, true, true, true, true, true, true, true, true, true, true, true, true, true, false, false, false, false, false, false, false, false, false, false, false, false, false, false, false, false, false, false, false, false, false, false]
abbrev q8_16 : Array Bool := #[true, true, true, true, true, true, true, true, true, true, true, true, true, true, true, true, false, false, false, false, false, false, false, false, false, false, false, false, false, false, false, false, false, false, false, false, false]
abbrev q8_17 : Array Bool := #[true, true, true, true, true, true, true, true, true, true, true, true, true, true, true, true, true, false, false, false, false, false, false, false, false, false, false, false, false, false, false, false, false, false, false, false, false]
abbrev q8_18 : Array Bool := #[true, true, true, true, true, true, true, true, true, true, true, true, true, true, true, true, true, true, false, false, false, false, false, false, false, false, false, false, false, false, false, false, false, false, false, false, false]
abbrev q8_19 : Array Bool := #[true, true, true, true, true, true, true, true, true, true, true, true, true, true, true, true, true, true, true, false, false, false, false, false, false, false, false, false, false, false, false, false, false, false, false, false, false]
abbrev q8_20 : Array Bool := #[true, true, true, true, true, true, true, true, true, true, true, true, true, true, true, true, true, true, true, true, false, false, false, false, false, false, false, false, false, false, false, false, false, false, false, false, false]
abbrev q8_21 : Array Bool := #[true, true, true, true, true, true, true, true, true, true, true, true, true, true, true, true, true, true, true, true, true, false, false, false, false, false, false, false, false, false, false, false, false, false, false, false, false]
abbrev q8_22 : Array Bool := #[true, true, true, true, true, true, true, true, true, true, true, true, true, true, true, true, true, true, true, true, true, true, false, false, false, false, false, false, false, false, false, false, false, false, false, false, false]
abbrev q8_23 : Array Bool := #[true, true, true, true, true, true, true, true, true, true, true, true, true, true, true, true, true, true, true, true, true, true, true, false, false, false, false, false, false, false, false, false, false, false, false, false, false]
abbrev q8_24 : Array Bool := #[true, true, true, true, true, true, true, true, true, true, true, true, true, true, true, true, true, true, true, true, true, true, true, true, false, false, false, false, false, false, false, false, false, false, false, false, false]
abbrev q8_25 : Array Bool := #[true, true, true, true, true, true, true, true, true, true, true, true, true, true, true, true, true, true, true, true, true, true, true, true, true, false, false, false, false, false, false, false, false, false, false, false, false]
abbrev q8_26 : Array Bool := #[true, true, true, true, true, true, true, true, true, true, true, true, true, true, true, true, true, true, true, true, true, true, true, true, true, true, false, false, false, false, false, false, false, false, false, false, false]
abbrev q8_27 : Array Bool := #[true, true, true, true, true, true, true, true, true, true, true, true, true, true, true, true, true, true, true, true, true, true, true, true, true, true, true, false, false, false, false, false, false, false, false, false, false]
abbrev q8_28 : Array Bool := #[true, true, true, true, true, true, true, true, true, true, true, true, true, true, true, true, true, true, true, true, true, true, true, true, true, true, true, true, false, false, false, false, false, false, false, false, false]
abbrev q8_29 : Array Bool := #[true, true, true, true, true, true, true, true, true, true, true, true, true, true, true, true, true, true, true, true, true, true, true, true, true, true, true, true, true, false, false, false, false, false, false, false, false]
abbrev q8_30 : Array Bool := #[true, true, true, true, true, true, true, true, true, true, true, true, true, true, true, true, true, true, true, true, true, true, true, true, true, true, true, true, true, true, false, false, false, false, false, false, false]
abbrev q8_31 : Array Bool := #[true, true, true, true, true, true, true, true, true, true, true, true, true, true, true, true, true, true, true, true, true, true, true, true, true, true, true, true, true, true, false, true, false, false, false, false, false]
abbrev q8_32 : Array Bool := #[true, true, true, true, true, true, true, true, true, true, true, true, true, true, true, true, true, true, true, true, true, true, true, true, true, true, true, true, true, true, false, true, true, false, false, false, false]
abbrev q8_33 : Array Bool := #[true, true, true, true, true, true, true, true, true, true, true, true, true, true, true, true, true, true, true, true, true, true, true, true, true, true, true, true, true, true, true, true, true, false, false, false, false]
abbrev q8_34 : Array Bool := #[true, true, true, true, true, true, true, true, true, true, true, true, true, true, true, true, true, true, true, true, true, true, true, true, true, true, true, true, true, true, true, true, true, true, false, false, false]
abbrev q8_35 : Array Bool := #[true, true, true, true, true, true, true, true, true, true, true, true, true, true, true, true, true, true, true, true, true, true, true, true, true, true, true, true, true, true, true, true, true, true, true, false, false]
abbrev q8_36 : Array Bool := #[true, true, true, true, true, true, true, true, true, true, true, true, true, true, true, true, true, true, true, true, true, true, true, true, true, true, true, true, true, true, true, true, true, true, true, true, false]
abbrev q8_37 : Array Bool := #[true, true, true, true, true, true, true, true, true, true, true, true, true, true, true, true, true, true, true, true, true, true, true, true, true, true, true, true, true, true, true, true, true, true, true, true, true]
abbrev q8_38 : Array Bool := #[false, false, false, false, false, false, false, false, false, false]
abbrev q8_39 : Array Bool := #[true, false, false, false, false, false, false, false, false, false]
abbrev q8_40 : Array Bool := #[true, false, true, false, false, false, false, false, false, false]
abbrev q8_41 : Array Bool := #[true, true, true, false, false, false, false, false, false, false]
abbrev q8_42 : Array Bool := #[true, true, true, true, false, false, false, false, false, false]
abbrev q8_43 : Array Bool := #[true, true, true, true, false, false, false, false, true, false]
abbrev q8_44 : Array Bool := #[true, true, true, true, false, true, false, false, false, false]
abbrev q8_45 : Array Bool := #[true, true, true, true, true, false, false, false, false, false]
abbrev q8_46 : Array Bool := #[true, true, true, true, false, true, false, false, true, false]
abbrev q8_47 : Array Bool := #[true, true, true, true, true, false, false, false, true, false]
abbrev q8_48 : Array Bool := #[true, true, true, true, true, true, false, false, false, false]
abbrev q8_49 : Array Bool := #[true, true, true, true, true, true, false, false, true, false]
abbrev q8_50 : Array Bool := #[true, true, true, true, true, true, true, false, false, false]
abbrev q8_51 : Array Bool := #[true, true, true, true, true, true, true, false, true, false]
abbrev q8_52 : Array Bool := #[true, true, true, true, true, true, true, true, false, false]
abbrev q8_53 : Array Bool := #[true, true, true, true, true, true, true, true, true, false]
abbrev q8_54 : Array Bool := #[true, true, true, true, true, true, true, true, true, true]
def colloquylaw06_AttrNone.j0 : Nat → Bool → Bool → Int → List Int → Int → Int → Option (Bool)
 | 0, _, _, _, _, _, _ => none
 | k + 1, x5, x14, x301000, x301001, x302000, x302001 => if x14 = true then (some x5) else (if ([] : List Int).length + x301001.length < 17592186044416 then ((some (([] : List Int) ++ x301001 : List Int)).bind fun y304 => ((some (([0, 0] : List Int) : List Int)).bind fun y307 => (if y304.length + y307.length < 17592186044416 then ((some (y304 ++ y307 : List Int)).bind fun y310 => ((attr_Within.f 0 ([] : List Int) x301000 x301001).bind fun t314 => (if t314 = true then ((attr_Same.f x301000 x301001 x301000 y310).bind fun t315 => (if t315 = true then ((attr_Merge.f k (([(⟨x301000, x301001⟩ : S27), (⟨0, ([] : List Int)⟩ : S27)] : List (S27)))).bind fun bt319 => ((attr_Same.f bt319.1 bt319.2 x301000 x301001).bind fun t323 => (if t323 = true then (if x302001 ≥ 1 then ((attr_Waits.f x301000 x301001 x302000 x302001).bind fun t324 => ((attr_Waits.f x301000 y310 x302000 x302001).bind fun t325 => (some (t324 == t325)))) else ((attr_Waits.f x301000 x301001 x302000 x302001).bind fun t326 => (if t326 = true then (some false) else ((attr_Waits.f x301000 x301001 x302000 x302001).bind fun t327 => ((attr_Waits.f x301000 y310 x302000 x302001).bind fun t328 => (some (t327 == t328))))))) else (some false)))) else (some false))) else (some false)))) else (none)))) else (none))
def colloquylaw06_AttrNone.f (k : Nat) (a0_0 : Int) (l0_1 : List Int) (a1_0 : Int) (a1_1 : Int) : Option (Bool) := (colloquylaw06_awake.f k).bind fun t302 => (if t302 = true then ((attr_May.f k a0_0 l0_1 5).bind fun t303 => (colloquylaw06_AttrNone.j0 k t302 (!t303) a0_0 l0_1 a1_0 a1_1)) else (colloquylaw06_AttrNone.j0 k t302 true a0_0 l0_1 a1_0 a1_1))
def colloquylaw06_AttrNone.T4 : Bool × List (List Nat × List Nat) := (true, [([], []), ([0], [0]), ([], []), ([2], [2]), ([3], [3]), ([], []), ([4, 5, 4], [4, 5]), ([1, 6], [1, 6]), ([], []), ([8, 7, 6, 0, 1, 2, 3, 4, 5, 6, 7, 8], [7, 8])])
def colloquylaw06_AttrNone.B4 : List Nat := [0, 1, 0, 4, 12, 0, 60, 127, 0, 511]
theorem colloquylaw06_AttrNone.tab4 : rtab .any (opsOf Try.f8 4) = colloquylaw06_AttrNone.T4 := by kernel_rfl
theorem colloquylaw06_AttrNone.bits4 : waitsOk colloquylaw06_AttrNone.T4.2 colloquylaw06_AttrNone.B4 = true := by kernel_rfl
def colloquylaw06_AttrNone.T5 : Bool × List (List Nat × List Nat) := (true, [([], []), ([], []), ([0, 1], [0, 1]), ([2, 2], [2]), ([3], [3]), ([3], [3]), ([4, 5, 3, 3], [3, 4, 5]), ([3, 6], [3, 6]), ([7, 6], [7]), ([8], [8]), ([8], [8]), ([9, 10, 8], [8, 9, 10]), ([11, 8, 8], [8, 11]), ([8], [8]), ([12, 13, 12, 8], [8, 12, 13]), ([8, 14], [8, 14]), ([15, 14], [15]), ([16], [16]), ([17, 16], [16, 17]), ([18, 16], [16, 18]), ([19, 16, 16], [16, 19]), ([20], [20]), ([20], [20]), ([21, 22, 20, 20], [20, 21, 22]), ([23, 20], [20, 23]), ([20, 24, 16], [16, 20, 24]), ([16, 25], [16, 25]), ([26, 23], [26]), ([27], [27]), ([27], [27]), ([28, 29, 27, 27], [27, 28, 29]), ([27], [27]), ([27], [27]), ([31, 32, 30, 27], [27, 31, 32]), ([30, 33, 27], [27, 30, 33]), ([27, 34], [27, 34]), ([35, 33, 0, 1, 2, 3, 4, 5, 6, 7, 8, 9, 10, 11, 12, 13, 14, 15, 16, 17, 18, 19, 20, 21, 22, 23, 24, 25, 26, 27, 28, 29, 30, 31, 32, 33, 34, 35], [35])])
def colloquylaw06_AttrNone.B5 : List Nat := [0, 0, 3, 7, 15, 15, 63, 127, 255, 511, 511, 2047, 4095, 511, 16383, 32767, 65535, 131071, 262143, 524287, 1048575, 2097151, 2097151, 8388607, 16777215, 33554431, 67108863, 134217727, 268435455, 268435455, 1073741823, 268435455, 268435455, 8589934591, 17179869183, 34359738367, 68719476735]
theorem colloquylaw06_AttrNone.tab5 : rtab .any (opsOf Try.f8 5) = colloquylaw06_AttrNone.T5 := by kernel_rfl
theorem colloquylaw06_AttrNone.bits5 : waitsOk colloquylaw06_AttrNone.T5.2 colloquylaw06_AttrNone.B5 = true := by kernel_rfl
set_option maxHeartbeats 8000000 in
set_option maxRecDepth 100000 in
theorem colloquylaw06_AttrNone.calls (k : Nat) (a0_0 : Int) (P0_1_ : Nat → Prop) (A0_1 : Option Addr) (c0_1 : Nat) (l0_1 : List Int) (a1_0 : Int) (a1_1 : Int) (r : Bool) (w : World) (hs0_1 : Kd.V (Kd.int .i64) 3 w w.heap.size (fun k_ => P0_1_ k_) (.slice A0_1 l0_1.length c0_1) l0_1) (hrt : r = true) (h : colloquylaw06_AttrNone.f k a0_0 l0_1 a1_0 a1_1 = some r) :
  Calls Try.prog 8 #[.agg #[.int .i64 a0_0, .slice A0_1 l0_1.length c0_1], .agg #[.int .i64 a1_0, .int .i64 a1_1]] w fun e w' => e = .returned (.bool r) ∧ Below w.heap.size w w' := by
 have hu27 := Try.underlying27
 have hu33 := Try.underlying33
 have HRT := Aside0.mk hrt
 clear hrt
 have HO0_1 := Aside0.mk (show Kd.V (Kd.int .i64) 3 w w.heap.size (fun k_ => (P0_1_ k_ ∨ w.heap.size ≤ k_)) (.slice A0_1 l0_1.length c0_1) l0_1 from Kd.V_mono hs0_1 (fun k_ hk => .inl hk))
 have HB := Aside0.mk (Below.refl w.heap.size w)
 have H : ((colloquylaw06_awake.f k).bind fun t302 => (if t302 = true then ((attr_May.f k a0_0 l0_1 5).bind fun t303 => (colloquylaw06_AttrNone.j0 k t302 (!t303) a0_0 l0_1 a1_0 a1_1)) else (colloquylaw06_AttrNone.j0 k t302 true a0_0 l0_1 a1_0 a1_1))) = some r := h
 clear h
 replace H := Option.bind_eq_some_iff.mp H
 obtain ⟨t302, A30, H⟩ := H
 replace H : (if t302 = true then ((attr_May.f k a0_0 l0_1 5).bind fun t303 => (colloquylaw06_AttrNone.j0 k t302 (!t303) a0_0 l0_1 a1_0 a1_1)) else (colloquylaw06_AttrNone.j0 k t302 true a0_0 l0_1 a1_0 a1_1)) = some r := H
 have A3 := Aside0.mk A30
 clear A30
 have HC4 := Aside0.mk H
 clear H
 go_enter Try.func8, Try.ntmps8
 go_upto_region 2 with (first | ((with_reducible refine gate_dst (N := 2) rfl ?_); (try (refine gate_guard (by rfl) ?_; dsimp only)); refine box_event ?hg (N := 2) ?hd (cs := #[.int .i64 a0_0, .slice A0_1 l0_1.length c0_1]) (t := 27) ?hr ?_; (case hd => rfl); (case hg => rfl); (case hr => first | (go_simp; done) | (go_simp; rfl)); intro gb300 hg w5 hbox hb; have n0_ := Aside0.mk (Kd.V_below (Kd.V_elderB (Kd.vk HO0_1) gb300 (Nat.le_of_eq hg.symm)) hb); have s_ := step_size_ (gw_ HB) hb hg; have n1_ := Aside0.mk s_.1; have n2_ := Aside0.mk (hbox); have n3_ := Aside0.mk s_.2; clear s_; have n4_ := n3_; clear HO0_1; clear HB; have HO0_1 := n0_; have HB := n1_; have BK300 := n2_; have GW300 := n3_; have GE300 := n4_; clear n0_ n1_ n2_ n3_ n4_; clear hb hbox hg) | ((with_reducible refine gate_dst (N := 3) rfl ?_); (try (refine gate_guard (by rfl) ?_; dsimp only)); refine box_event ?hg (N := 3) ?hd (cs := #[.int .i64 a1_0, .int .i64 a1_1]) (t := 33) ?hr ?_; (case hd => rfl); (case hg => rfl); (case hr => first | (go_simp; done) | (go_simp; rfl)); intro gb301 hg w6 hbox hb; have n0_ := Aside0.mk (Kd.V_below (Kd.V_elderB (Kd.vk HO0_1) gb301 (Nat.le_of_eq hg.symm)) hb); have n1_ := Aside0.mk (blk_below (g := gb300) (bk BK300) hb); have s_ := step_size_ (gw_ HB) hb hg; have n2_ := Aside0.mk s_.1; have n3_ := Aside0.mk (hbox); have n4_ := Aside0.mk s_.2; clear s_; have n5_ := n4_; have l_ := blk_lt_ (g := gb300) hg (bk BK300); have n6_ := Aside0.mk (Nat.ne_of_lt l_); have n7_ := Aside0.mk (Nat.ne_of_gt l_); clear l_; clear HO0_1; clear BK300; clear HB; have HO0_1 := n0_; have BK300 := n1_; have HB := n2_; have BK301 := n3_; have GW301 := n4_; have GE301 := n5_; have NB300_301 := n6_; have NB301_300 := n7_; clear n0_ n1_ n2_ n3_ n4_ n5_ n6_ n7_; clear hb hbox hg) | ((with_reducible refine gate_callee (f := 9) rfl ?_); refine goesL_ (some 7) rfl rfl Try.func9 (by kernel_rfl) rfl #[] rfl (by (try simp only [List.map_toArray, List.map_cons, List.map_nil]); first | done | rfl | (simp only [List.length_drop, List.length_take]; rfl)) ?_; (with_reducible refine (colloquylaw06_awake.calls k  t302 _ A3.out).mono ?_); rintro e w7 ⟨rfl, hb⟩; refine ⟨_, rfl, ?_⟩; have n0_ := Aside0.mk (Kd.V_below (Kd.vk HO0_1) hb); have n1_ := Aside0.mk (blk_below (g := gb300) (bk BK300) hb); have n2_ := Aside0.mk (blk_below (g := gb301) (bk BK301) hb); have n3_ := Aside0.mk (below_step (gw_ HB) hb); clear HO0_1; clear BK300; clear BK301; clear HB; have HO0_1 := n0_; have BK300 := n1_; have BK301 := n2_; have HB := n3_; clear n0_ n1_ n2_ n3_; (try clear hb); (try clear hb2); (try clear hk); (try clear hi)))
 (try simp only [Act.put, List.setIfInBounds_toArray, List.set_cons_zero, List.set_cons_succ])
 go_cut [14] (fun v14 wc => ∃ (kq : Nat) (x14_3 : Bool), v14 = .bool x14_3 ∧ Aside0 (colloquylaw06_AttrNone.j0 kq t302 x14_3 a0_0 l0_1 a1_0 a1_1 = some r) ∧ Aside0 (kq ≤ k) ∧ Aside0 (Kd.V (Kd.int .i64) 3 wc w.heap.size (fun k_ => (P0_1_ k_ ∨ w.heap.size ≤ k_) ∧ k_ ≠ gb300 ∧ k_ ≠ gb301) (.slice A0_1 l0_1.length c0_1) l0_1) ∧ Aside0 (wc.heap[gb300]? = some (.cells #[.int .i64 a0_0, (.slice A0_1 l0_1.length c0_1)] 27 (0, 0))) ∧ Aside0 (wc.heap[gb301]? = some (.cells #[.int .i64 a1_0, .int .i64 a1_1] 33 (0, 0))) ∧ Aside0 (Below w.heap.size w wc))
 case first =>
  have H := HC4.out
  clear HC4
  by_cases c8 : t302 = true
  ·
   subst c8
   have H1 : ((attr_May.f k a0_0 l0_1 5).bind fun t303 => (colloquylaw06_AttrNone.j0 k true (!t303) a0_0 l0_1 a1_0 a1_1)) = some r := by rw [if_pos rfl] at H; exact H
   clear H
   have H := H1
   clear H1
   replace H := Option.bind_eq_some_iff.mp H
   obtain ⟨t303, A90, H⟩ := H
   replace H : (colloquylaw06_AttrNone.j0 k true (!t303) a0_0 l0_1 a1_0 a1_1) = some r := H
   have A9 := Aside0.mk A90
   clear A90
   have H' := Aside0.mk H
   clear H
   have hnb10 := NB300_301.out
   have hnc10 := NB301_300.out
   obtain ⟨hcz11_0, hcz11_1⟩ := blk_cells2 BK300.out
   obtain ⟨hfz11_0, hfz11_1⟩ := blk_frozens2 BK300.out
   go_wp2_with (first | (go_at_call 17; (with_reducible refine (attr_May.calls k a0_0 _ _ l0_1 5 t303 _ ?side1 ?side2 A9.out).mono ?_); (case side1 => repeat (first | exact (Kd.V_reads' HO0_1.out).2.2 | (with_reducible refine Kd.C_alloc ?_ _) | (with_reducible refine Kd.C_drewN ?_ _) | (with_reducible refine Kd.C_drew ?_))); (case side2 => exact (Kd.V_reads' HO0_1.out).2.1); rintro e w12 ⟨rfl, hb⟩; have n0_ := Aside0.mk (Kd.V_below (Kd.vk HO0_1) hb); have n1_ := Aside0.mk (blk_below (g := gb300) (bk BK300) hb); have n2_ := Aside0.mk (blk_below (g := gb301) (bk BK301) hb); have n3_ := Aside0.mk (below_step (gw_ HB) hb); clear HO0_1; clear BK300; clear BK301; clear HB; have HO0_1 := n0_; have BK300 := n1_; have BK301 := n2_; have HB := n3_; clear n0_ n1_ n2_ n3_; (try clear hb); (try clear hb2); (try clear hk); (try clear hi)))
   go_meet
   case rel => exact ⟨_, (!t303), (by first | rfl | (simp; done) | (simp [*]; done)), H', ⟨by first | omega | exact Nat.le_refl _⟩, ⟨by (with_reducible repeat (first | apply Kd.V_alloc | apply Kd.V_drewN | apply Kd.V_drew)); exact Kd.V_mono HO0_1.out (fun _ hk => ⟨hk.1.1, ⟨hk.1.2, hk.2⟩⟩)⟩, ⟨by (with_reducible repeat (first | refine blk_drewN ?_ _ | refine blk_drew ?_ | refine blk_alloc ?_ _)); exact BK300.out⟩, ⟨by (with_reducible repeat (first | refine blk_drewN ?_ _ | refine blk_drew ?_ | refine blk_alloc ?_ _)); exact BK301.out⟩, ⟨gw_ HB⟩⟩
  ·
   replace c8 := Bool.eq_false_iff.mpr c8
   subst c8
   have H1 : (colloquylaw06_AttrNone.j0 k false true a0_0 l0_1 a1_0 a1_1) = some r := by rw [if_neg (show ¬ (false = true) by decide)] at H; exact H
   clear H
   have H := H1
   clear H1
   have H' := Aside0.mk H
   clear H
   go_wp2
   go_meet
   case rel => exact ⟨_, (true), (by first | rfl | (simp; done) | (simp [*]; done)), H', ⟨by first | omega | exact Nat.le_refl _⟩, ⟨by (with_reducible repeat (first | apply Kd.V_alloc | apply Kd.V_drewN | apply Kd.V_drew)); exact Kd.V_mono HO0_1.out (fun _ hk => ⟨hk.1.1, ⟨hk.1.2, hk.2⟩⟩)⟩, ⟨by (with_reducible repeat (first | refine blk_drewN ?_ _ | refine blk_drew ?_ | refine blk_alloc ?_ _)); exact BK300.out⟩, ⟨by (with_reducible repeat (first | refine blk_drewN ?_ _ | refine blk_drew ?_ | refine blk_alloc ?_ _)); exact BK301.out⟩, ⟨gw_ HB⟩⟩
 case rest =>
  clear HC4
  try clear c1
  try clear p2
  try clear c8
  try clear c9
  try clear c10
  try clear hcz11_0
  try clear hcz11_1
  try clear hfz11_0
  try clear hfz11_1
  obtain ⟨kq, x14_3, rfl, HA, HJ3, HO_301001, BK300, BK301, HB⟩ := hcut
  cases kq with
  | zero => exact absurd HA.out (by simp [colloquylaw06_AttrNone.j0])
  | succ kj3 =>
   have H := HA.out
   clear HA
   simp only [colloquylaw06_AttrNone.j0] at H
   by_cases c13 : x14_3 = true
   ·
    subst c13
    have H1 : (some t302) = some r := by rw [if_pos rfl] at H; exact H
    clear H
    have H := H1
    clear H1
    obtain rfl := Option.some.inj H
    go_wp2
    go_ret
    exact ⟨by first | rfl | (simp [errW_none, errW_some] <;> rfl) | (simp [*, errW_none, errW_some] <;> rfl), gw_ HB⟩
   ·
    replace c13 := Bool.eq_false_iff.mpr c13
    subst c13
    have H1 : (if ([] : List Int).length + l0_1.length < 17592186044416 then ((some (([] : List Int) ++ l0_1 : List Int)).bind fun y304 => ((some (([0, 0] : List Int) : List Int)).bind fun y307 => (if y304.length + y307.length < 17592186044416 then ((some (y304 ++ y307 : List Int)).bind fun y310 => ((attr_Within.f 0 ([] : List Int) a0_0 l0_1).bind fun t314 => (if t314 = true then ((attr_Same.f a0_0 l0_1 a0_0 y310).bind fun t315 => (if t315 = true then ((attr_Merge.f kj3 (([(⟨a0_0, l0_1⟩ : S27), (⟨0, ([] : List Int)⟩ : S27)] : List (S27)))).bind fun bt319 => ((attr_Same.f bt319.1 bt319.2 a0_0 l0_1).bind fun t323 => (if t323 = true then (if a1_1 ≥ 1 then ((attr_Waits.f a0_0 l0_1 a1_0 a1_1).bind fun t324 => ((attr_Waits.f a0_0 y310 a1_0 a1_1).bind fun t325 => (some (t324 == t325)))) else ((attr_Waits.f a0_0 l0_1 a1_0 a1_1).bind fun t326 => (if t326 = true then (some false) else ((attr_Waits.f a0_0 l0_1 a1_0 a1_1).bind fun t327 => ((attr_Waits.f a0_0 y310 a1_0 a1_1).bind fun t328 => (some (t327 == t328))))))) else (some false)))) else (some false))) else (some false)))) else (none)))) else (none)) = some r := by rw [if_neg (show ¬ (false = true) by decide)] at H; exact H
    clear H
    have H := H1
    clear H1
    by_cases c14 : ([] : List Int).length + l0_1.length < 17592186044416
    ·
     rw [if_pos c14] at H
     have LMc14 := Aside0.mk c14
     clear c14
     obtain ⟨y304, hy304⟩ : ∃ y_ : List Int, y_ = (([] : List Int) ++ l0_1) := ⟨_, rfl⟩
     replace H : ((some (([0, 0] : List Int) : List Int)).bind fun y307 => (if y304.length + y307.length < 17592186044416 then ((some (y304 ++ y307 : List Int)).bind fun y310 => ((attr_Within.f 0 ([] : List Int) a0_0 l0_1).bind fun t314 => (if t314 = true then ((attr_Same.f a0_0 l0_1 a0_0 y310).bind fun t315 => (if t315 = true then ((attr_Merge.f kj3 (([(⟨a0_0, l0_1⟩ : S27), (⟨0, ([] : List Int)⟩ : S27)] : List (S27)))).bind fun bt319 => ((attr_Same.f bt319.1 bt319.2 a0_0 l0_1).bind fun t323 => (if t323 = true then (if a1_1 ≥ 1 then ((attr_Waits.f a0_0 l0_1 a1_0 a1_1).bind fun t324 => ((attr_Waits.f a0_0 y310 a1_0 a1_1).bind fun t325 => (some (t324 == t325)))) else ((attr_Waits.f a0_0 l0_1 a1_0 a1_1).bind fun t326 => (if t326 = true then (some false) else ((attr_Waits.f a0_0 l0_1 a1_0 a1_1).bind fun t327 => ((attr_Waits.f a0_0 y310 a1_0 a1_1).bind fun t328 => (some (t327 == t328))))))) else (some false)))) else (some false))) else (some false)))) else (none))) = some r := by first | (rw [hy304]; with_reducible exact H) | (have H2_ := (Option.bind_some _ _).symm.trans H; rw [hy304]; with_reducible exact H2_) | (have H2_ := (Option.bind_some _ _).symm.trans H; with_reducible exact H2_) | with_reducible exact H | (rw [hy304]; exact H) | exact H
     have Ny304 := Aside0.mk hy304
     clear hy304
     obtain ⟨y307, hy307⟩ : ∃ y_ : List Int, y_ = (([0, 0] : List Int)) := ⟨_, rfl⟩
     replace H : (if y304.length + y307.length < 17592186044416 then ((some (y304 ++ y307 : List Int)).bind fun y310 => ((attr_Within.f 0 ([] : List Int) a0_0 l0_1).bind fun t314 => (if t314 = true then ((attr_Same.f a0_0 l0_1 a0_0 y310).bind fun t315 => (if t315 = true then ((attr_Merge.f kj3 (([(⟨a0_0, l0_1⟩ : S27), (⟨0, ([] : List Int)⟩ : S27)] : List (S27)))).bind fun bt319 => ((attr_Same.f bt319.1 bt319.2 a0_0 l0_1).bind fun t323 => (if t323 = true then (if a1_1 ≥ 1 then ((attr_Waits.f a0_0 l0_1 a1_0 a1_1).bind fun t324 => ((attr_Waits.f a0_0 y310 a1_0 a1_1).bind fun t325 => (some (t324 == t325)))) else ((attr_Waits.f a0_0 l0_1 a1_0 a1_1).bind fun t326 => (if t326 = true then (some false) else ((attr_Waits.f a0_0 l0_1 a1_0 a1_1).bind fun t327 => ((attr_Waits.f a0_0 y310 a1_0 a1_1).bind fun t328 => (some (t327 == t328))))))) else (some false)))) else (some false))) else (some false)))) else (none)) = some r := by first | (rw [hy307]; with_reducible exact H) | (have H2_ := (Option.bind_some _ _).symm.trans H; rw [hy307]; with_reducible exact H2_) | (have H2_ := (Option.bind_some _ _).symm.trans H; with_reducible exact H2_) | with_reducible exact H | (rw [hy307]; exact H) | exact H
     have Ny307 := Aside0.mk hy307
     clear hy307
     by_cases c15 : y304.length + y307.length < 17592186044416
     ·
      rw [if_pos c15] at H
      have LMc15 := Aside0.mk c15
      clear c15
      obtain ⟨y310, hy310⟩ : ∃ y_ : List Int, y_ = (y304 ++ y307) := ⟨_, rfl⟩
      replace H : ((attr_Within.f 0 ([] : List Int) a0_0 l0_1).bind fun t314 => (if t314 = true then ((attr_Same.f a0_0 l0_1 a0_0 y310).bind fun t315 => (if t315 = true then ((attr_Merge.f kj3 (([(⟨a0_0, l0_1⟩ : S27), (⟨0, ([] : List Int)⟩ : S27)] : List (S27)))).bind fun bt319 => ((attr_Same.f bt319.1 bt319.2 a0_0 l0_1).bind fun t323 => (if t323 = true then (if a1_1 ≥ 1 then ((attr_Waits.f a0_0 l0_1 a1_0 a1_1).bind fun t324 => ((attr_Waits.f a0_0 y310 a1_0 a1_1).bind fun t325 => (some (t324 == t325)))) else ((attr_Waits.f a0_0 l0_1 a1_0 a1_1).bind fun t326 => (if t326 = true then (some false) else ((attr_Waits.f a0_0 l0_1 a1_0 a1_1).bind fun t327 => ((attr_Waits.f a0_0 y310 a1_0 a1_1).bind fun t328 => (some (t327 == t328))))))) else (some false)))) else (some false))) else (some false))) = some r := by first | (rw [hy310]; with_reducible exact H) | (have H2_ := (Option.bind_some _ _).symm.trans H; rw [hy310]; with_reducible exact H2_) | (have H2_ := (Option.bind_some _ _).symm.trans H; with_reducible exact H2_) | with_reducible exact H | (rw [hy310]; exact H) | exact H
      have Ny310 := Aside0.mk hy310
      clear hy310
      replace H := Option.bind_eq_some_iff.mp H
      obtain ⟨t314, A160, H⟩ := H
      replace H : (if t314 = true then ((attr_Same.f a0_0 l0_1 a0_0 y310).bind fun t315 => (if t315 = true then ((attr_Merge.f kj3 (([(⟨a0_0, l0_1⟩ : S27), (⟨0, ([] : List Int)⟩ : S27)] : List (S27)))).bind fun bt319 => ((attr_Same.f bt319.1 bt319.2 a0_0 l0_1).bind fun t323 => (if t323 = true then (if a1_1 ≥ 1 then ((attr_Waits.f a0_0 l0_1 a1_0 a1_1).bind fun t324 => ((attr_Waits.f a0_0 y310 a1_0 a1_1).bind fun t325 => (some (t324 == t325)))) else ((attr_Waits.f a0_0 l0_1 a1_0 a1_1).bind fun t326 => (if t326 = true then (some false) else ((attr_Waits.f a0_0 l0_1 a1_0 a1_1).bind fun t327 => ((attr_Waits.f a0_0 y310 a1_0 a1_1).bind fun t328 => (some (t327 == t328))))))) else (some false)))) else (some false))) else (some false)) = some r := H
      have A16 := Aside0.mk A160
      clear A160
      by_cases c17 : t314 = true
      ·
       subst c17
       have H1 : ((attr_Same.f a0_0 l0_1 a0_0 y310).bind fun t315 => (if t315 = true then ((attr_Merge.f kj3 (([(⟨a0_0, l0_1⟩ : S27), (⟨0, ([] : List Int)⟩ : S27)] : List (S27)))).bind fun bt319 => ((attr_Same.f bt319.1 bt319.2 a0_0 l0_1).bind fun t323 => (if t323 = true then (if a1_1 ≥ 1 then ((attr_Waits.f a0_0 l0_1 a1_0 a1_1).bind fun t324 => ((attr_Waits.f a0_0 y310 a1_0 a1_1).bind fun t325 => (some (t324 == t325)))) else ((attr_Waits.f a0_0 l0_1 a1_0 a1_1).bind fun t326 => (if t326 = true then (some false) else ((attr_Waits.f a0_0 l0_1 a1_0 a1_1).bind fun t327 => ((attr_Waits.f a0_0 y310 a1_0 a1_1).bind fun t328 => (some (t327 == t328))))))) else (some false)))) else (some false))) = some r := by rw [if_pos rfl] at H; exact H
       clear H
       have H := H1
       clear H1
       replace H := Option.bind_eq_some_iff.mp H
       obtain ⟨t315, A180, H⟩ := H
       replace H : (if t315 = true then ((attr_Merge.f kj3 (([(⟨a0_0, l0_1⟩ : S27), (⟨0, ([] : List Int)⟩ : S27)] : List (S27)))).bind fun bt319 => ((attr_Same.f bt319.1 bt319.2 a0_0 l0_1).bind fun t323 => (if t323 = true then (if a1_1 ≥ 1 then ((attr_Waits.f a0_0 l0_1 a1_0 a1_1).bind fun t324 => ((attr_Waits.f a0_0 y310 a1_0 a1_1).bind fun t325 => (some (t324 == t325)))) else ((attr_Waits.f a0_0 l0_1 a1_0 a1_1).bind fun t326 => (if t326 = true then (some false) else ((attr_Waits.f a0_0 l0_1 a1_0 a1_1).bind fun t327 => ((attr_Waits.f a0_0 y310 a1_0 a1_1).bind fun t328 => (some (t327 == t328))))))) else (some false)))) else (some false)) = some r := H
       have A18 := Aside0.mk A180
       clear A180
       by_cases c19 : t315 = true
       ·
        subst c19
        have H1 : ((attr_Merge.f kj3 (([(⟨a0_0, l0_1⟩ : S27), (⟨0, ([] : List Int)⟩ : S27)] : List (S27)))).bind fun bt319 => ((attr_Same.f bt319.1 bt319.2 a0_0 l0_1).bind fun t323 => (if t323 = true then (if a1_1 ≥ 1 then ((attr_Waits.f a0_0 l0_1 a1_0 a1_1).bind fun t324 => ((attr_Waits.f a0_0 y310 a1_0 a1_1).bind fun t325 => (some (t324 == t325)))) else ((attr_Waits.f a0_0 l0_1 a1_0 a1_1).bind fun t326 => (if t326 = true then (some false) else ((attr_Waits.f a0_0 l0_1 a1_0 a1_1).bind fun t327 => ((attr_Waits.f a0_0 y310 a1_0 a1_1).bind fun t328 => (some (t327 == t328))))))) else (some false)))) = some r := by rw [if_pos rfl] at H; exact H
        clear H
        have H := H1
        clear H1
        obtain ⟨y316, hy316⟩ : ∃ y_ : List (S27), y_ = (([(⟨a0_0, l0_1⟩ : S27), (⟨0, ([] : List Int)⟩ : S27)] : List (S27))) := ⟨_, rfl⟩
        replace H : ((attr_Merge.f kj3 y316).bind fun bt319 => ((attr_Same.f bt319.1 bt319.2 a0_0 l0_1).bind fun t323 => (if t323 = true then (if a1_1 ≥ 1 then ((attr_Waits.f a0_0 l0_1 a1_0 a1_1).bind fun t324 => ((attr_Waits.f a0_0 y310 a1_0 a1_1).bind fun t325 => (some (t324 == t325)))) else ((attr_Waits.f a0_0 l0_1 a1_0 a1_1).bind fun t326 => (if t326 = true then (some false) else ((attr_Waits.f a0_0 l0_1 a1_0 a1_1).bind fun t327 => ((attr_Waits.f a0_0 y310 a1_0 a1_1).bind fun t328 => (some (t327 == t328))))))) else (some false)))) = some r := by first | (rw [hy316]; with_reducible exact H) | (have H2_ := (Option.bind_some _ _).symm.trans H; rw [hy316]; with_reducible exact H2_) | (have H2_ := (Option.bind_some _ _).symm.trans H; with_reducible exact H2_) | with_reducible exact H | (rw [hy316]; exact H) | exact H
        have Ny316 := Aside0.mk hy316
        clear hy316
        replace H := Option.bind_eq_some_iff.mp H
        obtain ⟨⟨t319, t320⟩, A200, H⟩ := H
        replace H : ((attr_Same.f t319 t320 a0_0 l0_1).bind fun t323 => (if t323 = true then (if a1_1 ≥ 1 then ((attr_Waits.f a0_0 l0_1 a1_0 a1_1).bind fun t324 => ((attr_Waits.f a0_0 y310 a1_0 a1_1).bind fun t325 => (some (t324 == t325)))) else ((attr_Waits.f a0_0 l0_1 a1_0 a1_1).bind fun t326 => (if t326 = true then (some false) else ((attr_Waits.f a0_0 l0_1 a1_0 a1_1).bind fun t327 => ((attr_Waits.f a0_0 y310 a1_0 a1_1).bind fun t328 => (some (t327 == t328))))))) else (some false))) = some r := H
        have A20 := Aside0.mk A200
        clear A200
        replace H := Option.bind_eq_some_iff.mp H
        obtain ⟨t323, A210, H⟩ := H
        replace H : (if t323 = true then (if a1_1 ≥ 1 then ((attr_Waits.f a0_0 l0_1 a1_0 a1_1).bind fun t324 => ((attr_Waits.f a0_0 y310 a1_0 a1_1).bind fun t325 => (some (t324 == t325)))) else ((attr_Waits.f a0_0 l0_1 a1_0 a1_1).bind fun t326 => (if t326 = true then (some false) else ((attr_Waits.f a0_0 l0_1 a1_0 a1_1).bind fun t327 => ((attr_Waits.f a0_0 y310 a1_0 a1_1).bind fun t328 => (some (t327 == t328))))))) else (some false)) = some r := H
        have A21 := Aside0.mk A210
        clear A210
        by_cases c22 : t323 = true
        ·
         subst c22
         have H1 : (if a1_1 ≥ 1 then ((attr_Waits.f a0_0 l0_1 a1_0 a1_1).bind fun t324 => ((attr_Waits.f a0_0 y310 a1_0 a1_1).bind fun t325 => (some (t324 == t325)))) else ((attr_Waits.f a0_0 l0_1 a1_0 a1_1).bind fun t326 => (if t326 = true then (some false) else ((attr_Waits.f a0_0 l0_1 a1_0 a1_1).bind fun t327 => ((attr_Waits.f a0_0 y310 a1_0 a1_1).bind fun t328 => (some (t327 == t328))))))) = some r := by rw [if_pos rfl] at H; exact H
         clear H
         have H := H1
         clear H1
         by_cases c23 : a1_1 ≥ 1
         ·
          rw [if_pos c23] at H
          have c23b0 : decide (1 ≤ a1_1) = true := decide_eq_true c23
          clear c23
          replace H := Option.bind_eq_some_iff.mp H
          obtain ⟨t324, A240, H⟩ := H
          replace H : ((attr_Waits.f a0_0 y310 a1_0 a1_1).bind fun t325 => (some (t324 == t325))) = some r := H
          have A24 := Aside0.mk A240
          clear A240
          replace H := Option.bind_eq_some_iff.mp H
          obtain ⟨t325, A250, H⟩ := H
          replace H : (some (t324 == t325)) = some r := H
          have A25 := Aside0.mk A250
          clear A250
          obtain rfl := Option.some.inj H
          try go_wp2
          have n0_ := Aside0.mk (Kd.V_drew HO_301001.out)
          have n1_ := Aside0.mk (blk_drew BK300.out)
          have n2_ := Aside0.mk (blk_drew BK301.out)
          have n3_ := Aside0.mk (below_drew1 HB.out)
          clear HO_301001
          clear BK300
          clear BK301
          clear HB
          have HO_301001 := n0_
          have BK300 := n1_
          have BK301 := n2_
          have HB := n3_
          clear n0_ n1_ n2_ n3_
          refine start_ (n := 10) (S := fun w' => w'.cell? ⟨gb300, 0, none⟩ = some (.int .i64 a0_0) ∧ w'.cell? ⟨gb300, 1, none⟩ = some (.slice A0_1 l0_1.length c0_1)) (ds := []) q8_38 (by kernel_rfl) rfl rfl ⟨(blk_cell BK300.out 0).trans rfl, (blk_cell BK300.out 1).trans rfl⟩ (fun hHeld => ?_); refine with_tabW colloquylaw06_AttrNone.tab4 colloquylaw06_AttrNone.bits4 (fun HT_ HW_ => ?_)
          generalize wc.drew = w26 at HO_301001 BK300 BK301 HB hHeld ⊢
          refine pure_ (i := 0) (N := some 16) (v := ?_) (a' := ?_) q8_39 rfl rfl (any_of HT_.out (by kernel_rfl)) (fun _ _ _ h => h) (Or.inl ⟨by rfl, ?_⟩) ?_ ?_
          rotate_left
          ·
           intro w'
           go_simp
           with_reducible rfl
          rotate_left
          ·
           simp only [Act.put, List.setIfInBounds_toArray, List.set_cons_zero, List.set_cons_succ, i64_w, i32_w]
           rfl
          refine pure_ (i := 2) (N := some 18) (v := ?_) (a' := ?_) q8_40 rfl rfl (any_of HT_.out (by kernel_rfl)) (fun _ _ _ h => h) (Or.inl ⟨by rfl, ?_⟩) ?_ ?_
          rotate_left
          ·
           intro w'
           go_simp
           with_reducible rfl
          rotate_left
          ·
           simp only [Act.put, List.setIfInBounds_toArray, List.set_cons_zero, List.set_cons_succ, i64_w, i32_w]
           rfl
          refine take_ (i := 1) (N := some 17) (v := ?_) (a' := ?_) q8_41 rfl rfl (take_ofW HT_.out HW_.out (by kernel_rfl)) (fun _ _ _ h => h) (Or.inl ⟨by rfl, ?_⟩) hHeld ?_ ?_
          rotate_left
          ·
           rintro w' ⟨s0, s1⟩
           go_simp
           with_reducible rfl
          rotate_left
          ·
           simp only [Act.put, List.setIfInBounds_toArray, List.set_cons_zero, List.set_cons_succ, i64_w, i32_w]
           rfl
          refine take_ (i := 3) (N := some 19) (v := ?_) (a' := ?_) q8_42 rfl rfl (take_ofW HT_.out HW_.out (by kernel_rfl)) (fun _ _ _ h => h) (Or.inl ⟨by rfl, ?_⟩) hHeld ?_ ?_
          rotate_left
          ·
           rintro w' ⟨s0, s1⟩
           go_simp
           with_reducible rfl
          rotate_left
          ·
           simp only [Act.put, List.setIfInBounds_toArray, List.set_cons_zero, List.set_cons_succ, i64_w, i32_w]
           rfl
          refine join_ (σ := Value × Value × Value × Nat) 1 q8_53 (fun s_ => [(20, s_.1), (21, s_.2.1), (22, s_.2.2.1), (6, .pointer (some ⟨s_.2.2.2, 0, none⟩)), (23, .agg #[.int .i64 a0_0, s_.2.2.1])]) (fun s_ w' => (w'.cell? ⟨gb300, 0, none⟩ = some (.int .i64 a0_0) ∧ w'.cell? ⟨gb300, 1, none⟩ = some (.slice A0_1 l0_1.length c0_1)) ∧ (Kd.R (Kd.int .i64) 3 w' w.heap.size (fun k_ => (w.heap.size ≤ k_) ∧ some k_ ≠ (s_.2.2.1 : Value).ownBlock) s_.2.1 y307) ∧ (Kd.R (Kd.int .i64) 3 w' w.heap.size (fun k_ => (w.heap.size ≤ k_) ∧ some k_ ≠ (s_.2.1 : Value).ownBlock) s_.2.2.1 y310) ∧ (Kd.V (Kd.int .i64) 3 w' w.heap.size (fun k_ => (P0_1_ k_ ∨ w.heap.size ≤ k_) ∧ some k_ ≠ (s_.2.1 : Value).ownBlock ∧ some k_ ≠ (s_.2.2.1 : Value).ownBlock ∧ k_ ≠ gb300 ∧ k_ ≠ gb301 ∧ k_ ≠ s_.2.2.2) (.slice A0_1 l0_1.length c0_1) l0_1) ∧ (w'.heap[gb300]? = some (.cells #[.int .i64 a0_0, .slice A0_1 l0_1.length c0_1] 27 (0, 0))) ∧ (w'.heap[gb301]? = some (.cells #[.int .i64 a1_0, .int .i64 a1_1] 33 (0, 0))) ∧ (w'.heap[s_.2.2.2]? = some (.cells #[.int .i64 0, .slice none 0 0] 27 (0, 0))) ∧ (w.heap.size ≤ s_.2.2.2) ∧ (w.heap.size ≤ s_.2.2.2) ∧ (gb300 ≠ s_.2.2.2) ∧ (s_.2.2.2 ≠ gb300) ∧ (gb301 ≠ s_.2.2.2) ∧ (s_.2.2.2 ≠ gb301) ∧ (Below w.heap.size w w')) ?_ ?_
          rotate_left
          ·
           intro hJ4_5_6_8
           refine join_ (σ := Value × Value × Value) 2 q8_52 (fun s_ => [(20, s_.1), (21, s_.2.1), (22, s_.2.2), (23, .agg #[.int .i64 a0_0, s_.2.2])]) (fun s_ w' => (w'.cell? ⟨gb300, 0, none⟩ = some (.int .i64 a0_0) ∧ w'.cell? ⟨gb300, 1, none⟩ = some (.slice A0_1 l0_1.length c0_1)) ∧ (Kd.R (Kd.int .i64) 3 w' w.heap.size (fun k_ => (w.heap.size ≤ k_) ∧ some k_ ≠ (s_.2.2 : Value).ownBlock) s_.2.1 y307) ∧ (Kd.R (Kd.int .i64) 3 w' w.heap.size (fun k_ => (w.heap.size ≤ k_) ∧ some k_ ≠ (s_.2.1 : Value).ownBlock) s_.2.2 y310) ∧ (Kd.V (Kd.int .i64) 3 w' w.heap.size (fun k_ => (P0_1_ k_ ∨ w.heap.size ≤ k_) ∧ some k_ ≠ (s_.2.1 : Value).ownBlock ∧ some k_ ≠ (s_.2.2 : Value).ownBlock ∧ k_ ≠ gb300 ∧ k_ ≠ gb301) (.slice A0_1 l0_1.length c0_1) l0_1) ∧ (w'.heap[gb300]? = some (.cells #[.int .i64 a0_0, .slice A0_1 l0_1.length c0_1] 27 (0, 0))) ∧ (w'.heap[gb301]? = some (.cells #[.int .i64 a1_0, .int .i64 a1_1] 33 (0, 0))) ∧ (Below w.heap.size w w')) ?_ ?_
           rotate_left
           ·
            intro hJ4_5_6
            refine join_ (σ := Value × Value × Nat) 3 q8_49 (fun s_ => [(20, s_.1), (21, s_.2.1), (6, .pointer (some ⟨s_.2.2, 0, none⟩))]) (fun s_ w' => (w'.cell? ⟨gb300, 0, none⟩ = some (.int .i64 a0_0) ∧ w'.cell? ⟨gb300, 1, none⟩ = some (.slice A0_1 l0_1.length c0_1)) ∧ (Kd.R (Kd.int .i64) 3 w' w.heap.size (fun k_ => (w.heap.size ≤ k_) ∧ some k_ ≠ (s_.2.1 : Value).ownBlock) s_.1 y304) ∧ (Kd.R (Kd.int .i64) 3 w' w.heap.size (fun k_ => (w.heap.size ≤ k_) ∧ some k_ ≠ (s_.1 : Value).ownBlock) s_.2.1 y307) ∧ (Kd.V (Kd.int .i64) 3 w' w.heap.size (fun k_ => (P0_1_ k_ ∨ w.heap.size ≤ k_) ∧ some k_ ≠ (s_.1 : Value).ownBlock ∧ some k_ ≠ (s_.2.1 : Value).ownBlock ∧ k_ ≠ gb300 ∧ k_ ≠ gb301 ∧ k_ ≠ s_.2.2) (.slice A0_1 l0_1.length c0_1) l0_1) ∧ (w'.heap[gb300]? = some (.cells #[.int .i64 a0_0, .slice A0_1 l0_1.length c0_1] 27 (0, 0))) ∧ (w'.heap[gb301]? = some (.cells #[.int .i64 a1_0, .int .i64 a1_1] 33 (0, 0))) ∧ (w'.heap[s_.2.2]? = some (.cells #[.int .i64 0, .slice none 0 0] 27 (0, 0))) ∧ (w.heap.size ≤ s_.2.2) ∧ (w.heap.size ≤ s_.2.2) ∧ (gb300 ≠ s_.2.2) ∧ (s_.2.2 ≠ gb300) ∧ (gb301 ≠ s_.2.2) ∧ (s_.2.2 ≠ gb301) ∧ (Below w.heap.size w w')) ?_ ?_
            rotate_left
            ·
             intro hJ4_5_8
             refine join_ (σ := Value × Value) 4 q8_48 (fun s_ => [(20, s_.1), (21, s_.2)]) (fun s_ w' => (w'.cell? ⟨gb300, 0, none⟩ = some (.int .i64 a0_0) ∧ w'.cell? ⟨gb300, 1, none⟩ = some (.slice A0_1 l0_1.length c0_1)) ∧ (Kd.R (Kd.int .i64) 3 w' w.heap.size (fun k_ => (w.heap.size ≤ k_) ∧ some k_ ≠ (s_.2 : Value).ownBlock) s_.1 y304) ∧ (Kd.R (Kd.int .i64) 3 w' w.heap.size (fun k_ => (w.heap.size ≤ k_) ∧ some k_ ≠ (s_.1 : Value).ownBlock) s_.2 y307) ∧ (Kd.V (Kd.int .i64) 3 w' w.heap.size (fun k_ => (P0_1_ k_ ∨ w.heap.size ≤ k_) ∧ some k_ ≠ (s_.1 : Value).ownBlock ∧ some k_ ≠ (s_.2 : Value).ownBlock ∧ k_ ≠ gb300 ∧ k_ ≠ gb301) (.slice A0_1 l0_1.length c0_1) l0_1) ∧ (w'.heap[gb300]? = some (.cells #[.int .i64 a0_0, .slice A0_1 l0_1.length c0_1] 27 (0, 0))) ∧ (w'.heap[gb301]? = some (.cells #[.int .i64 a1_0, .int .i64 a1_1] 33 (0, 0))) ∧ (Below w.heap.size w w')) ?_ ?_
             rotate_left
             ·
              intro hJ4_5
              refine join_ (σ := Value × Nat) 4 q8_47 (fun s_ => [(20, s_.1), (6, .pointer (some ⟨s_.2, 0, none⟩))]) (fun s_ w' => (w'.cell? ⟨gb300, 0, none⟩ = some (.int .i64 a0_0) ∧ w'.cell? ⟨gb300, 1, none⟩ = some (.slice A0_1 l0_1.length c0_1)) ∧ (Kd.R (Kd.int .i64) 3 w' w.heap.size (fun k_ => (w.heap.size ≤ k_)) s_.1 y304) ∧ (Kd.V (Kd.int .i64) 3 w' w.heap.size (fun k_ => (P0_1_ k_ ∨ w.heap.size ≤ k_) ∧ some k_ ≠ (s_.1 : Value).ownBlock ∧ k_ ≠ gb300 ∧ k_ ≠ gb301 ∧ k_ ≠ s_.2) (.slice A0_1 l0_1.length c0_1) l0_1) ∧ (w'.heap[gb300]? = some (.cells #[.int .i64 a0_0, .slice A0_1 l0_1.length c0_1] 27 (0, 0))) ∧ (w'.heap[gb301]? = some (.cells #[.int .i64 a1_0, .int .i64 a1_1] 33 (0, 0))) ∧ (w'.heap[s_.2]? = some (.cells #[.int .i64 0, .slice none 0 0] 27 (0, 0))) ∧ (w.heap.size ≤ s_.2) ∧ (w.heap.size ≤ s_.2) ∧ (gb300 ≠ s_.2) ∧ (s_.2 ≠ gb300) ∧ (gb301 ≠ s_.2) ∧ (s_.2 ≠ gb301) ∧ (Below w.heap.size w w')) ?_ ?_
              rotate_left
              ·
               intro hJ4_8
               refine join_ (σ := Value × Nat) 4 q8_46 (fun s_ => [(21, s_.1), (6, .pointer (some ⟨s_.2, 0, none⟩))]) (fun s_ w' => (w'.cell? ⟨gb300, 0, none⟩ = some (.int .i64 a0_0) ∧ w'.cell? ⟨gb300, 1, none⟩ = some (.slice A0_1 l0_1.length c0_1)) ∧ (Kd.R (Kd.int .i64) 3 w' w.heap.size (fun k_ => (w.heap.size ≤ k_)) s_.1 y307) ∧ (Kd.V (Kd.int .i64) 3 w' w.heap.size (fun k_ => (P0_1_ k_ ∨ w.heap.size ≤ k_) ∧ some k_ ≠ (s_.1 : Value).ownBlock ∧ k_ ≠ gb300 ∧ k_ ≠ gb301 ∧ k_ ≠ s_.2) (.slice A0_1 l0_1.length c0_1) l0_1) ∧ (w'.heap[gb300]? = some (.cells #[.int .i64 a0_0, .slice A0_1 l0_1.length c0_1] 27 (0, 0))) ∧ (w'.heap[gb301]? = some (.cells #[.int .i64 a1_0, .int .i64 a1_1] 33 (0, 0))) ∧ (w'.heap[s_.2]? = some (.cells #[.int .i64 0, .slice none 0 0] 27 (0, 0))) ∧ (w.heap.size ≤ s_.2) ∧ (w.heap.size ≤ s_.2) ∧ (gb300 ≠ s_.2) ∧ (s_.2 ≠ gb300) ∧ (gb301 ≠ s_.2) ∧ (s_.2 ≠ gb301) ∧ (Below w.heap.size w w')) ?_ ?_
               rotate_left
               ·
                intro hJ5_8
                refine join_ (σ := Value) 5 q8_45 (fun s_ => [(20, s_)]) (fun s_ w' => (w'.cell? ⟨gb300, 0, none⟩ = some (.int .i64 a0_0) ∧ w'.cell? ⟨gb300, 1, none⟩ = some (.slice A0_1 l0_1.length c0_1)) ∧ (Kd.R (Kd.int .i64) 3 w' w.heap.size (fun k_ => (w.heap.size ≤ k_)) s_ y304) ∧ (Kd.V (Kd.int .i64) 3 w' w.heap.size (fun k_ => (P0_1_ k_ ∨ w.heap.size ≤ k_) ∧ some k_ ≠ (s_ : Value).ownBlock ∧ k_ ≠ gb300 ∧ k_ ≠ gb301) (.slice A0_1 l0_1.length c0_1) l0_1) ∧ (w'.heap[gb300]? = some (.cells #[.int .i64 a0_0, .slice A0_1 l0_1.length c0_1] 27 (0, 0))) ∧ (w'.heap[gb301]? = some (.cells #[.int .i64 a1_0, .int .i64 a1_1] 33 (0, 0))) ∧ (Below w.heap.size w w')) ?_ ?_
                rotate_left
                ·
                 intro hJ4
                 refine join_ (σ := Value) 5 q8_44 (fun s_ => [(21, s_)]) (fun s_ w' => (w'.cell? ⟨gb300, 0, none⟩ = some (.int .i64 a0_0) ∧ w'.cell? ⟨gb300, 1, none⟩ = some (.slice A0_1 l0_1.length c0_1)) ∧ (Kd.R (Kd.int .i64) 3 w' w.heap.size (fun k_ => (w.heap.size ≤ k_)) s_ y307) ∧ (Kd.V (Kd.int .i64) 3 w' w.heap.size (fun k_ => (P0_1_ k_ ∨ w.heap.size ≤ k_) ∧ some k_ ≠ (s_ : Value).ownBlock ∧ k_ ≠ gb300 ∧ k_ ≠ gb301) (.slice A0_1 l0_1.length c0_1) l0_1) ∧ (w'.heap[gb300]? = some (.cells #[.int .i64 a0_0, .slice A0_1 l0_1.length c0_1] 27 (0, 0))) ∧ (w'.heap[gb301]? = some (.cells #[.int .i64 a1_0, .int .i64 a1_1] 33 (0, 0))) ∧ (Below w.heap.size w w')) ?_ ?_
                 rotate_left
                 ·
                  intro hJ5
                  refine join_ (σ := Nat) 5 q8_43 (fun s_ => [(6, .pointer (some ⟨s_, 0, none⟩))]) (fun s_ w' => (w'.cell? ⟨gb300, 0, none⟩ = some (.int .i64 a0_0) ∧ w'.cell? ⟨gb300, 1, none⟩ = some (.slice A0_1 l0_1.length c0_1)) ∧ (Kd.V (Kd.int .i64) 3 w' w.heap.size (fun k_ => (P0_1_ k_ ∨ w.heap.size ≤ k_) ∧ k_ ≠ gb300 ∧ k_ ≠ gb301 ∧ k_ ≠ s_) (.slice A0_1 l0_1.length c0_1) l0_1) ∧ (w'.heap[gb300]? = some (.cells #[.int .i64 a0_0, .slice A0_1 l0_1.length c0_1] 27 (0, 0))) ∧ (w'.heap[gb301]? = some (.cells #[.int .i64 a1_0, .int .i64 a1_1] 33 (0, 0))) ∧ (w'.heap[s_]? = some (.cells #[.int .i64 0, .slice none 0 0] 27 (0, 0))) ∧ (w.heap.size ≤ s_) ∧ (w.heap.size ≤ s_) ∧ (gb300 ≠ s_) ∧ (s_ ≠ gb300) ∧ (gb301 ≠ s_) ∧ (s_ ≠ gb301) ∧ (Below w.heap.size w w')) ?_ ?_
                  rotate_left
                  ·
                   intro hJ8
                   refine three_ (i := 4) (j := 5) (k := 8) (Ni := some 20) (Nj := some 21) (Nk := some 6) q8_45 q8_44 q8_43 rfl rfl rfl rfl rfl rfl (three_of HT_.out (by kernel_rfl)) (by decide) (by decide) (by decide) (fun K hK => ?_) (fun K hK => ?_) (fun K hK => ?_)
                   ·
                    skip
                    refine Kd.R_append_rows_step (Kd.int .i64) (w0 := w) w.heap.size (by rfl) (.const (.slice none 0 0)) (.tmp 19) 25 3 (.int .i64 0) 8 rfl Try.underlying25 info3 rfl (by decide) (by omega) (.slice none 0 0) ([] : List Int) l0_1 _ _ _ (fun k_ => (w.heap.size ≤ k_)) (fun _ => False) rfl rfl ?aO ?aR (fun _ _ h => h) (fun _ h => h.elim) ?aF ?aB ?aS ?aL ?_
                    (case aR => repeat (first | exact (Kd.V_reads' HO_301001.out).2.2 | (with_reducible refine Kd.C_alloc ?_ _) | (with_reducible refine Kd.C_drewN ?_ _) | (with_reducible refine Kd.C_drew ?_)))
                    (case aB => exact (gw_ HB))
                    (case aF => exact (fun k_ hk => (Nat.le_trans (below_size (gw_ HB)) hk)))
                    (case aO => exact ((Kd.R_nil _ _ _ _ (fun k_ => (w.heap.size ≤ k_)))))
                    (case aS => exact (below_size (gw_ HB)))
                    (case aL => have := LMc14.out; omega)
                    intro v305 w27 ho hb hg hat
                    rw [← Ny304.out] at ho
                    have n0_ := Aside0.mk (Kd.V_afterv (Kd.V_apart_nil (Kd.vk HO_301001)) hg hat)
                    have n1_ := Aside0.mk (blk_grown (g := gb300) (bk BK300) hg (by simp [Value.ownBlock]))
                    have n2_ := Aside0.mk (blk_grown (g := gb301) (bk BK301) hg (by simp [Value.ownBlock]))
                    have n3_ := Aside0.mk (hb)
                    have n4_ := Aside0.mk (ho)
                    clear HO_301001
                    clear BK300
                    clear BK301
                    clear HB
                    have HO_301001 := n0_
                    have BK300 := n1_
                    have BK301 := n2_
                    have HB := n3_
                    have HO306 := n4_
                    clear n0_ n1_ n2_ n3_ n4_
                    clear ho hb hg hat
                    refine hK.out _ _ ⟨(blk_cell BK300.out 0).trans rfl, (blk_cell BK300.out 1).trans rfl⟩ (fun hHeld => ?_)
                    clear hK K
                    refine norm_ (a' := ?_) ?_ ?_
                    rotate_left
                    ·
                     show Act.put _ (some 20) _ = _
                     simp only [Act.put, List.setIfInBounds_toArray, List.set_cons_zero, List.set_cons_succ, i64_w, i32_w]
                     rfl
                    exact norm_ (by first | (simp only [putAll, Act.put, List.setIfInBounds_toArray, List.set_cons_zero, List.set_cons_succ]; done) | (simp only [putAll, Act.put, List.setIfInBounds_toArray, List.set_cons_zero, List.set_cons_succ]; rfl)) (hJ4 (v305) _ ⟨hHeld, (Kd.rk HO306), (by (with_reducible repeat (first | apply Kd.V_alloc | apply Kd.V_drewN | apply Kd.V_drew)); exact Kd.V_mono HO_301001.out (fun _ hk => ⟨hk.1.1, ⟨hk.2, ⟨hk.1.2.1, hk.1.2.2⟩⟩⟩)), (bk BK300), (bk BK301), (gw_ HB)⟩)
                   ·
                    skip
                    refine Kd.R_lit_step (Kd.int .i64) _ 3 ?hg (N := 21) ?hd (xs := ([0, 0] : List Int)) (inner := [.int .i64 0, .int .i64 0]) (ok := fun _ => True) (okp := fun _ => True) ?hr ?hp (fun _ hk => hk) trivial (Below.refl _ _) (Nat.le_refl _) (by simp) ?_; (case hd => rfl); (case hg => rfl); (case hr => first | (go_simp; done) | (go_simp; rfl)); (case hp => exact (Reps.one (show Kd.M (Kd.int .i64) _ _ _ 0 [.int .i64 0] from rfl) (Reps.one (show Kd.M (Kd.int .i64) _ _ _ 0 [.int .i64 0] from rfl) (Reps.none _ _))))
                    intro v308 w27 ho28 hb hg_ hnew_
                    clear hg_ hnew_
                    (first | rw [← Ny307.out] at ho28 | (simp only [Int.reduceToNat] at ho28; rw [← Ny307.out] at ho28))
                    have n0_ := Aside0.mk (Kd.V_elder' (Kd.vk HO_301001) (Kd.R_base ho28) hb)
                    have n1_ := Aside0.mk (Kd.R_lower (Kd.R_newM (M := fun k_ => (w.heap.size ≤ k_)) ho28 (below_size (gw_ HB)) (fun k_ h_ => h_)) (below_size (gw_ HB)))
                    have n2_ := Aside0.mk (blk_below (g := gb300) (bk BK300) hb)
                    have n3_ := Aside0.mk (blk_below (g := gb301) (bk BK301) hb)
                    have n4_ := Aside0.mk (below_step (gw_ HB) hb)
                    clear HO_301001
                    clear BK300
                    clear BK301
                    clear HB
                    have HO_301001 := n0_
                    have HO309 := n1_
                    have BK300 := n2_
                    have BK301 := n3_
                    have HB := n4_
                    clear n0_ n1_ n2_ n3_ n4_
                    clear hb ho28
                    refine hK.out _ _ ⟨(blk_cell BK300.out 0).trans rfl, (blk_cell BK300.out 1).trans rfl⟩ (fun hHeld => ?_)
                    clear hK K
                    refine norm_ (a' := ?_) ?_ ?_
                    rotate_left
                    ·
                     show Act.put _ (some 21) _ = _
                     simp only [Act.put, List.setIfInBounds_toArray, List.set_cons_zero, List.set_cons_succ, i64_w, i32_w]
                     rfl
                    exact norm_ (by first | (simp only [putAll, Act.put, List.setIfInBounds_toArray, List.set_cons_zero, List.set_cons_succ]; done) | (simp only [putAll, Act.put, List.setIfInBounds_toArray, List.set_cons_zero, List.set_cons_succ]; rfl)) (hJ5 (v308) _ ⟨hHeld, (by (with_reducible repeat (first | apply Kd.R_alloc | apply Kd.R_drewN | apply Kd.R_drew)); exact Kd.R_mono HO309.out (fun _ hk => hk.1)), (by (with_reducible repeat (first | apply Kd.V_alloc | apply Kd.V_drewN | apply Kd.V_drew)); exact Kd.V_mono HO_301001.out (fun _ hk => ⟨hk.1.1, ⟨hk.2, ⟨hk.1.2.1, hk.1.2.2⟩⟩⟩)), (bk BK300), (bk BK301), (gw_ HB)⟩)
                   ·
                    skip
                    refine box_step ?hg (N := 6) ?hd (cs := #[.int .i64 0, .slice none 0 0]) (t := 27) ?hr ?_; (case hd => rfl); (case hg => rfl); (case hr => first | (go_simp; done) | (go_simp; rfl))
                    intro gb313 hg w27 hbox hb
                    have n0_ := Aside0.mk (Kd.V_below (Kd.V_elderB (Kd.vk HO_301001) gb313 (Nat.le_of_eq hg.symm)) hb)
                    have n1_ := Aside0.mk (blk_below (g := gb300) (bk BK300) hb)
                    have n2_ := Aside0.mk (blk_below (g := gb301) (bk BK301) hb)
                    have n3_ := Aside0.mk (below_step (gw_ HB) hb)
                    have n4_ := Aside0.mk (hbox)
                    have n5_ := Aside0.mk ((by rw [hg]; exact (below_size (gw_ HB)) : w.heap.size ≤ gb313))
                    have n6_ := Aside0.mk ((by rw [hg]; exact (below_size (gw_ HB)) : w.heap.size ≤ gb313))
                    have n7_ := Aside0.mk ((by rw [hg]; exact Nat.ne_of_lt (blk_lt (g := gb300) (bk BK300)) : gb300 ≠ gb313))
                    have n8_ := Aside0.mk ((by rw [hg]; exact Nat.ne_of_gt (blk_lt (g := gb300) (bk BK300)) : gb313 ≠ gb300))
                    have n9_ := Aside0.mk ((by rw [hg]; exact Nat.ne_of_lt (blk_lt (g := gb301) (bk BK301)) : gb301 ≠ gb313))
                    have n10_ := Aside0.mk ((by rw [hg]; exact Nat.ne_of_gt (blk_lt (g := gb301) (bk BK301)) : gb313 ≠ gb301))
                    clear HO_301001
                    clear BK300
                    clear BK301
                    clear HB
                    have HO_301001 := n0_
                    have BK300 := n1_
                    have BK301 := n2_
                    have HB := n3_
                    have BK313 := n4_
                    have GW313 := n5_
                    have GE313 := n6_
                    have NB300_313 := n7_
                    have NB313_300 := n8_
                    have NB301_313 := n9_
                    have NB313_301 := n10_
                    clear n0_ n1_ n2_ n3_ n4_ n5_ n6_ n7_ n8_ n9_ n10_
                    clear hb hbox hg
                    refine hK.out _ _ ⟨(blk_cell BK300.out 0).trans rfl, (blk_cell BK300.out 1).trans rfl⟩ (fun hHeld => ?_)
                    clear hK K
                    refine norm_ (a' := ?_) ?_ ?_
                    rotate_left
                    ·
                     show Act.put _ (some 6) _ = _
                     simp only [Act.put, List.setIfInBounds_toArray, List.set_cons_zero, List.set_cons_succ, i64_w, i32_w]
                     rfl
                    exact norm_ (by first | (simp only [putAll, Act.put, List.setIfInBounds_toArray, List.set_cons_zero, List.set_cons_succ]; done) | (simp only [putAll, Act.put, List.setIfInBounds_toArray, List.set_cons_zero, List.set_cons_succ]; rfl)) (hJ8 (gb313) _ ⟨hHeld, (by (with_reducible repeat (first | apply Kd.V_alloc | apply Kd.V_drewN | apply Kd.V_drew)); exact Kd.V_mono HO_301001.out (fun _ hk => ⟨hk.1.1, ⟨hk.1.2.1, ⟨hk.1.2.2, hk.2⟩⟩⟩)), (bk BK300), (bk BK301), (bk BK313), GW313.out, GE313.out, NB300_313.out, NB313_300.out, NB301_313.out, NB313_301.out, (gw_ HB)⟩)
                  ·
                   skip
                   rintro gb313 w28 ⟨hS_, h0_, h1_, h2_, h3_, h4_, h5_, h6_, h7_, h8_, h9_, h10_⟩
                   have n0_ : Aside0 (Kd.V (Kd.int .i64) 3 w28 w.heap.size (fun k_ => (P0_1_ k_ ∨ w.heap.size ≤ k_) ∧ k_ ≠ gb300 ∧ k_ ≠ gb301 ∧ k_ ≠ gb313) (.slice A0_1 l0_1.length c0_1) l0_1) := ⟨h0_⟩
                   have n1_ : Aside0 (w28.heap[gb300]? = some (.cells #[.int .i64 a0_0, .slice A0_1 l0_1.length c0_1] 27 (0, 0))) := ⟨h1_⟩
                   have n2_ : Aside0 (w28.heap[gb301]? = some (.cells #[.int .i64 a1_0, .int .i64 a1_1] 33 (0, 0))) := ⟨h2_⟩
                   have n3_ : Aside0 (w28.heap[gb313]? = some (.cells #[.int .i64 0, .slice none 0 0] 27 (0, 0))) := ⟨h3_⟩
                   have n4_ : Aside0 (w.heap.size ≤ gb313) := ⟨h4_⟩
                   have n5_ : Aside0 (w.heap.size ≤ gb313) := ⟨h5_⟩
                   have n6_ : Aside0 (gb300 ≠ gb313) := ⟨h6_⟩
                   have n7_ : Aside0 (gb313 ≠ gb300) := ⟨h7_⟩
                   have n8_ : Aside0 (gb301 ≠ gb313) := ⟨h8_⟩
                   have n9_ : Aside0 (gb313 ≠ gb301) := ⟨h9_⟩
                   have n10_ : Aside0 (Below w.heap.size w w28) := ⟨h10_⟩
                   clear HO_301001
                   clear BK300
                   clear BK301
                   clear HB
                   clear h0_ h1_ h2_ h3_ h4_ h5_ h6_ h7_ h8_ h9_ h10_
                   have HO_301001 := n0_
                   have BK300 := n1_
                   have BK301 := n2_
                   have BK313 := n3_
                   have GW313 := n4_
                   have GE313 := n5_
                   have NB300_313 := n6_
                   have NB313_300 := n7_
                   have NB301_313 := n8_
                   have NB313_301 := n9_
                   have HB := n10_
                   clear n0_ n1_ n2_ n3_ n4_ n5_ n6_ n7_ n8_ n9_ n10_
                   have hHeld : w28.cell? ⟨gb300, 0, none⟩ = some (.int .i64 a0_0) ∧ w28.cell? ⟨gb300, 1, none⟩ = some (.slice A0_1 l0_1.length c0_1) := hS_
                   refine norm_ (a' := ?_) ?_ ?_
                   rotate_left
                   ·
                    simp only [putAll, Act.put, List.setIfInBounds_toArray, List.set_cons_zero, List.set_cons_succ]
                    rfl
                   refine two_ (i := 4) (j := 5) (Ni := some 20) (Nj := some 21) q8_47 q8_46 rfl rfl rfl rfl (two_of HT_.out (by kernel_rfl)) (by decide) (by decide) (fun K hK => ?_) (fun K hK => ?_)
                   ·
                    skip
                    refine Kd.R_append_rows_step (Kd.int .i64) (w0 := w) w.heap.size (by rfl) (.const (.slice none 0 0)) (.tmp 19) 25 3 (.int .i64 0) 8 rfl Try.underlying25 info3 rfl (by decide) (by omega) (.slice none 0 0) ([] : List Int) l0_1 _ _ _ (fun k_ => (w.heap.size ≤ k_)) (fun _ => False) rfl rfl ?aO ?aR (fun _ _ h => h) (fun _ h => h.elim) ?aF ?aB ?aS ?aL ?_
                    (case aR => repeat (first | exact (Kd.V_reads' HO_301001.out).2.2 | (with_reducible refine Kd.C_alloc ?_ _) | (with_reducible refine Kd.C_drewN ?_ _) | (with_reducible refine Kd.C_drew ?_)))
                    (case aB => exact (gw_ HB))
                    (case aF => exact (fun k_ hk => (Nat.le_trans (below_size (gw_ HB)) hk)))
                    (case aO => exact ((Kd.R_nil _ _ _ _ (fun k_ => (w.heap.size ≤ k_)))))
                    (case aS => exact (below_size (gw_ HB)))
                    (case aL => have := LMc14.out; omega)
                    intro v305 w29 ho hb hg hat
                    rw [← Ny304.out] at ho
                    have n0_ := Aside0.mk (Kd.V_afterv (Kd.V_apart_nil (Kd.vk HO_301001)) hg hat)
                    have n1_ := Aside0.mk (blk_grown (g := gb300) (bk BK300) hg (by simp [Value.ownBlock]))
                    have n2_ := Aside0.mk (blk_grown (g := gb301) (bk BK301) hg (by simp [Value.ownBlock]))
                    have n3_ := Aside0.mk (blk_grown (g := gb313) (bk BK313) hg (by simp [Value.ownBlock]))
                    have n4_ := Aside0.mk (hb)
                    have n5_ := Aside0.mk (ho)
                    clear HO_301001
                    clear BK300
                    clear BK301
                    clear BK313
                    clear HB
                    have HO_301001 := n0_
                    have BK300 := n1_
                    have BK301 := n2_
                    have BK313 := n3_
                    have HB := n4_
                    have HO306 := n5_
                    clear n0_ n1_ n2_ n3_ n4_ n5_
                    clear ho hb hg hat
                    refine hK.out _ _ ⟨(blk_cell BK300.out 0).trans rfl, (blk_cell BK300.out 1).trans rfl⟩ (fun hHeld => ?_)
                    clear hK K
                    refine norm_ (a' := ?_) ?_ ?_
                    rotate_left
                    ·
                     show Act.put _ (some 20) _ = _
                     simp only [Act.put, List.setIfInBounds_toArray, List.set_cons_zero, List.set_cons_succ, i64_w, i32_w]
                     rfl
                    exact norm_ (by first | (simp only [putAll, Act.put, List.setIfInBounds_toArray, List.set_cons_zero, List.set_cons_succ]; done) | (simp only [putAll, Act.put, List.setIfInBounds_toArray, List.set_cons_zero, List.set_cons_succ]; rfl)) (hJ4_8 (v305, gb313) _ ⟨hHeld, (Kd.rk HO306), (by (with_reducible repeat (first | apply Kd.V_alloc | apply Kd.V_drewN | apply Kd.V_drew)); exact Kd.V_mono HO_301001.out (fun _ hk => ⟨hk.1.1, ⟨hk.2, ⟨hk.1.2.1, ⟨hk.1.2.2.1, hk.1.2.2.2⟩⟩⟩⟩)), (bk BK300), (bk BK301), (bk BK313), GW313.out, GE313.out, NB300_313.out, NB313_300.out, NB301_313.out, NB313_301.out, (gw_ HB)⟩)
                   ·
                    skip
                    refine Kd.R_lit_step (Kd.int .i64) _ 3 ?hg (N := 21) ?hd (xs := ([0, 0] : List Int)) (inner := [.int .i64 0, .int .i64 0]) (ok := fun _ => True) (okp := fun _ => True) ?hr ?hp (fun _ hk => hk) trivial (Below.refl _ _) (Nat.le_refl _) (by simp) ?_; (case hd => rfl); (case hg => rfl); (case hr => first | (go_simp; done) | (go_simp; rfl)); (case hp => exact (Reps.one (show Kd.M (Kd.int .i64) _ _ _ 0 [.int .i64 0] from rfl) (Reps.one (show Kd.M (Kd.int .i64) _ _ _ 0 [.int .i64 0] from rfl) (Reps.none _ _))))
                    intro v308 w29 ho30 hb hg_ hnew_
                    clear hg_ hnew_
                    (first | rw [← Ny307.out] at ho30 | (simp only [Int.reduceToNat] at ho30; rw [← Ny307.out] at ho30))
                    have n0_ := Aside0.mk (Kd.V_elder' (Kd.vk HO_301001) (Kd.R_base ho30) hb)
                    have n1_ := Aside0.mk (Kd.R_lower (Kd.R_newM (M := fun k_ => (w.heap.size ≤ k_)) ho30 (below_size (gw_ HB)) (fun k_ h_ => h_)) (below_size (gw_ HB)))
                    have n2_ := Aside0.mk (blk_below (g := gb300) (bk BK300) hb)
                    have n3_ := Aside0.mk (blk_below (g := gb301) (bk BK301) hb)
                    have n4_ := Aside0.mk (blk_below (g := gb313) (bk BK313) hb)
                    have n5_ := Aside0.mk (below_step (gw_ HB) hb)
                    clear HO_301001
                    clear BK300
                    clear BK301
                    clear BK313
                    clear HB
                    have HO_301001 := n0_
                    have HO309 := n1_
                    have BK300 := n2_
                    have BK301 := n3_
                    have BK313 := n4_
                    have HB := n5_
                    clear n0_ n1_ n2_ n3_ n4_ n5_
                    clear hb ho30
                    refine hK.out _ _ ⟨(blk_cell BK300.out 0).trans rfl, (blk_cell BK300.out 1).trans rfl⟩ (fun hHeld => ?_)
                    clear hK K
                    refine norm_ (a' := ?_) ?_ ?_
                    rotate_left
                    ·
                     show Act.put _ (some 21) _ = _
                     simp only [Act.put, List.setIfInBounds_toArray, List.set_cons_zero, List.set_cons_succ, i64_w, i32_w]
                     rfl
                    exact norm_ (by first | (simp only [putAll, Act.put, List.setIfInBounds_toArray, List.set_cons_zero, List.set_cons_succ]; done) | (simp only [putAll, Act.put, List.setIfInBounds_toArray, List.set_cons_zero, List.set_cons_succ]; rfl)) (hJ5_8 (v308, gb313) _ ⟨hHeld, (by (with_reducible repeat (first | apply Kd.R_alloc | apply Kd.R_drewN | apply Kd.R_drew)); exact Kd.R_mono HO309.out (fun _ hk => hk.1)), (by (with_reducible repeat (first | apply Kd.V_alloc | apply Kd.V_drewN | apply Kd.V_drew)); exact Kd.V_mono HO_301001.out (fun _ hk => ⟨hk.1.1, ⟨hk.2, ⟨hk.1.2.1, ⟨hk.1.2.2.1, hk.1.2.2.2⟩⟩⟩⟩)), (bk BK300), (bk BK301), (bk BK313), GW313.out, GE313.out, NB300_313.out, NB313_300.out, NB301_313.out, NB313_301.out, (gw_ HB)⟩)
                 ·
                  skip
                  rintro v308 w29 ⟨hS_, h0_, h1_, h2_, h3_, h4_⟩
                  have n0_ : Aside0 (Kd.R (Kd.int .i64) 3 w29 w.heap.size (fun k_ => (w.heap.size ≤ k_)) v308 y307) := ⟨h0_⟩
                  have n1_ : Aside0 (Kd.V (Kd.int .i64) 3 w29 w.heap.size (fun k_ => (P0_1_ k_ ∨ w.heap.size ≤ k_) ∧ some k_ ≠ (v308 : Value).ownBlock ∧ k_ ≠ gb300 ∧ k_ ≠ gb301) (.slice A0_1 l0_1.length c0_1) l0_1) := ⟨h1_⟩
                  have n2_ : Aside0 (w29.heap[gb300]? = some (.cells #[.int .i64 a0_0, .slice A0_1 l0_1.length c0_1] 27 (0, 0))) := ⟨h2_⟩
                  have n3_ : Aside0 (w29.heap[gb301]? = some (.cells #[.int .i64 a1_0, .int .i64 a1_1] 33 (0, 0))) := ⟨h3_⟩
                  have n4_ : Aside0 (Below w.heap.size w w29) := ⟨h4_⟩
                  clear HO_301001
                  clear BK300
                  clear BK301
                  clear HB
                  clear h0_ h1_ h2_ h3_ h4_
                  have HO309 := n0_
                  have HO_301001 := n1_
                  have BK300 := n2_
                  have BK301 := n3_
                  have HB := n4_
                  clear n0_ n1_ n2_ n3_ n4_
                  have hHeld : w29.cell? ⟨gb300, 0, none⟩ = some (.int .i64 a0_0) ∧ w29.cell? ⟨gb300, 1, none⟩ = some (.slice A0_1 l0_1.length c0_1) := hS_
                  refine norm_ (a' := ?_) ?_ ?_
                  rotate_left
                  ·
                   simp only [putAll, Act.put, List.setIfInBounds_toArray, List.set_cons_zero, List.set_cons_succ]
                   rfl
                  refine two_ (i := 4) (j := 8) (Ni := some 20) (Nj := some 6) q8_48 q8_46 rfl rfl rfl rfl (two_of HT_.out (by kernel_rfl)) (by decide) (by decide) (fun K hK => ?_) (fun K hK => ?_)
                  ·
                   skip
                   refine Kd.R_append_rows_step (Kd.int .i64) (w0 := w) w.heap.size (by rfl) (.const (.slice none 0 0)) (.tmp 19) 25 3 (.int .i64 0) 8 rfl Try.underlying25 info3 rfl (by decide) (by omega) (.slice none 0 0) ([] : List Int) l0_1 _ _ _ (fun k_ => (w.heap.size ≤ k_) ∧ some k_ ≠ (v308 : Value).ownBlock) (fun _ => False) rfl rfl ?aO ?aR (fun _ _ h => h) (fun _ h => h.elim) ?aF ?aB ?aS ?aL ?_
                   (case aR => repeat (first | exact (Kd.V_reads' HO_301001.out).2.2 | (with_reducible refine Kd.C_alloc ?_ _) | (with_reducible refine Kd.C_drewN ?_ _) | (with_reducible refine Kd.C_drew ?_)))
                   (case aB => exact (gw_ HB))
                   (case aF => exact (fun k_ hk => ⟨(Nat.le_trans (below_size (gw_ HB)) hk), Kd.fresh' (Kd.R_lt (Kd.rk HO309)) k_ hk⟩))
                   (case aO => exact ((Kd.R_nil _ _ _ _ (fun k_ => (w.heap.size ≤ k_) ∧ some k_ ≠ (v308 : Value).ownBlock))))
                   (case aS => exact (below_size (gw_ HB)))
                   (case aL => have := LMc14.out; omega)
                   intro v305 w30 ho hb hg hat
                   rw [← Ny304.out] at ho
                   have n0_ := Aside0.mk (Kd.V_afterv (Kd.V_apart_nil (Kd.vk HO_301001)) hg hat)
                   have n1_ := Aside0.mk (blk_grown (g := gb300) (bk BK300) hg (by simp [Value.ownBlock]))
                   have n2_ := Aside0.mk (blk_grown (g := gb301) (bk BK301) hg (by simp [Value.ownBlock]))
                   have n3_ := Aside0.mk (Kd.R_after (Kd.R_apart_nil (Kd.rk HO309)) hg hat)
                   have n4_ := Aside0.mk (hb)
                   have n5_ := Aside0.mk (ho)
                   clear HO_301001
                   clear BK300
                   clear BK301
                   clear HO309
                   clear HB
                   have HO_301001 := n0_
                   have BK300 := n1_
                   have BK301 := n2_
                   have HO309 := n3_
                   have HB := n4_
                   have HO306 := n5_
                   clear n0_ n1_ n2_ n3_ n4_ n5_
                   clear ho hb hg hat
                   refine hK.out _ _ ⟨(blk_cell BK300.out 0).trans rfl, (blk_cell BK300.out 1).trans rfl⟩ (fun hHeld => ?_)
                   clear hK K
                   refine norm_ (a' := ?_) ?_ ?_
                   rotate_left
                   ·
                    show Act.put _ (some 20) _ = _
                    simp only [Act.put, List.setIfInBounds_toArray, List.set_cons_zero, List.set_cons_succ, i64_w, i32_w]
                    rfl
                   exact norm_ (by first | (simp only [putAll, Act.put, List.setIfInBounds_toArray, List.set_cons_zero, List.set_cons_succ]; done) | (simp only [putAll, Act.put, List.setIfInBounds_toArray, List.set_cons_zero, List.set_cons_succ]; rfl)) (hJ4_5 (v305, v308) _ ⟨hHeld, (Kd.rk HO306), (Kd.rk HO309), (by (with_reducible repeat (first | apply Kd.V_alloc | apply Kd.V_drewN | apply Kd.V_drew)); exact Kd.V_mono HO_301001.out (fun _ hk => ⟨hk.1.1, ⟨hk.2, ⟨hk.1.2.1, ⟨hk.1.2.2.1, hk.1.2.2.2⟩⟩⟩⟩)), (bk BK300), (bk BK301), (gw_ HB)⟩)
                  ·
                   skip
                   refine box_step ?hg (N := 6) ?hd (cs := #[.int .i64 0, .slice none 0 0]) (t := 27) ?hr ?_; (case hd => rfl); (case hg => rfl); (case hr => first | (go_simp; done) | (go_simp; rfl))
                   intro gb313 hg w30 hbox hb
                   have n0_ := Aside0.mk (Kd.V_below (Kd.V_elderB (Kd.vk HO_301001) gb313 (Nat.le_of_eq hg.symm)) hb)
                   have n1_ := Aside0.mk (Kd.R_below (Kd.rk HO309) hb)
                   have n2_ := Aside0.mk (blk_below (g := gb300) (bk BK300) hb)
                   have n3_ := Aside0.mk (blk_below (g := gb301) (bk BK301) hb)
                   have n4_ := Aside0.mk (below_step (gw_ HB) hb)
                   have n5_ := Aside0.mk (hbox)
                   have n6_ := Aside0.mk ((by rw [hg]; exact (below_size (gw_ HB)) : w.heap.size ≤ gb313))
                   have n7_ := Aside0.mk ((by rw [hg]; exact (below_size (gw_ HB)) : w.heap.size ≤ gb313))
                   have n8_ := Aside0.mk ((by rw [hg]; exact Nat.ne_of_lt (blk_lt (g := gb300) (bk BK300)) : gb300 ≠ gb313))
                   have n9_ := Aside0.mk ((by rw [hg]; exact Nat.ne_of_gt (blk_lt (g := gb300) (bk BK300)) : gb313 ≠ gb300))
                   have n10_ := Aside0.mk ((by rw [hg]; exact Nat.ne_of_lt (blk_lt (g := gb301) (bk BK301)) : gb301 ≠ gb313))
                   have n11_ := Aside0.mk ((by rw [hg]; exact Nat.ne_of_gt (blk_lt (g := gb301) (bk BK301)) : gb313 ≠ gb301))
                   clear HO_301001
                   clear HO309
                   clear BK300
                   clear BK301
                   clear HB
                   have HO_301001 := n0_
                   have HO309 := n1_
                   have BK300 := n2_
                   have BK301 := n3_
                   have HB := n4_
                   have BK313 := n5_
                   have GW313 := n6_
                   have GE313 := n7_
                   have NB300_313 := n8_
                   have NB313_300 := n9_
                   have NB301_313 := n10_
                   have NB313_301 := n11_
                   clear n0_ n1_ n2_ n3_ n4_ n5_ n6_ n7_ n8_ n9_ n10_ n11_
                   clear hb hbox hg
                   refine hK.out _ _ ⟨(blk_cell BK300.out 0).trans rfl, (blk_cell BK300.out 1).trans rfl⟩ (fun hHeld => ?_)
                   clear hK K
                   refine norm_ (a' := ?_) ?_ ?_
                   rotate_left
                   ·
                    show Act.put _ (some 6) _ = _
                    simp only [Act.put, List.setIfInBounds_toArray, List.set_cons_zero, List.set_cons_succ, i64_w, i32_w]
                    rfl
                   exact norm_ (by first | (simp only [putAll, Act.put, List.setIfInBounds_toArray, List.set_cons_zero, List.set_cons_succ]; done) | (simp only [putAll, Act.put, List.setIfInBounds_toArray, List.set_cons_zero, List.set_cons_succ]; rfl)) (hJ5_8 (v308, gb313) _ ⟨hHeld, (Kd.rk HO309), (by (with_reducible repeat (first | apply Kd.V_alloc | apply Kd.V_drewN | apply Kd.V_drew)); exact Kd.V_mono HO_301001.out (fun _ hk => ⟨hk.1.1, ⟨hk.1.2.1, ⟨hk.1.2.2.1, ⟨hk.1.2.2.2, hk.2⟩⟩⟩⟩)), (bk BK300), (bk BK301), (bk BK313), GW313.out, GE313.out, NB300_313.out, NB313_300.out, NB301_313.out, NB313_301.out, (gw_ HB)⟩)
                ·
                 skip
                 rintro v305 w28 ⟨hS_, h0_, h1_, h2_, h3_, h4_⟩
                 have n0_ : Aside0 (Kd.R (Kd.int .i64) 3 w28 w.heap.size (fun k_ => (w.heap.size ≤ k_)) v305 y304) := ⟨h0_⟩
                 have n1_ : Aside0 (Kd.V (Kd.int .i64) 3 w28 w.heap.size (fun k_ => (P0_1_ k_ ∨ w.heap.size ≤ k_) ∧ some k_ ≠ (v305 : Value).ownBlock ∧ k_ ≠ gb300 ∧ k_ ≠ gb301) (.slice A0_1 l0_1.length c0_1) l0_1) := ⟨h1_⟩
                 have n2_ : Aside0 (w28.heap[gb300]? = some (.cells #[.int .i64 a0_0, .slice A0_1 l0_1.length c0_1] 27 (0, 0))) := ⟨h2_⟩
                 have n3_ : Aside0 (w28.heap[gb301]? = some (.cells #[.int .i64 a1_0, .int .i64 a1_1] 33 (0, 0))) := ⟨h3_⟩
                 have n4_ : Aside0 (Below w.heap.size w w28) := ⟨h4_⟩
                 clear HO_301001
                 clear BK300
                 clear BK301
                 clear HB
                 clear h0_ h1_ h2_ h3_ h4_
                 have HO306 := n0_
                 have HO_301001 := n1_
                 have BK300 := n2_
                 have BK301 := n3_
                 have HB := n4_
                 clear n0_ n1_ n2_ n3_ n4_
                 have hHeld : w28.cell? ⟨gb300, 0, none⟩ = some (.int .i64 a0_0) ∧ w28.cell? ⟨gb300, 1, none⟩ = some (.slice A0_1 l0_1.length c0_1) := hS_
                 refine norm_ (a' := ?_) ?_ ?_
                 rotate_left
                 ·
                  simp only [putAll, Act.put, List.setIfInBounds_toArray, List.set_cons_zero, List.set_cons_succ]
                  rfl
                 refine two_ (i := 5) (j := 8) (Ni := some 21) (Nj := some 6) q8_48 q8_47 rfl rfl rfl rfl (two_of HT_.out (by kernel_rfl)) (by decide) (by decide) (fun K hK => ?_) (fun K hK => ?_)
                 ·
                  skip
                  refine Kd.R_lit_step (Kd.int .i64) _ 3 ?hg (N := 21) ?hd (xs := ([0, 0] : List Int)) (inner := [.int .i64 0, .int .i64 0]) (ok := fun _ => True) (okp := fun _ => True) ?hr ?hp (fun _ hk => hk) trivial (Below.refl _ _) (Nat.le_refl _) (by simp) ?_; (case hd => rfl); (case hg => rfl); (case hr => first | (go_simp; done) | (go_simp; rfl)); (case hp => exact (Reps.one (show Kd.M (Kd.int .i64) _ _ _ 0 [.int .i64 0] from rfl) (Reps.one (show Kd.M (Kd.int .i64) _ _ _ 0 [.int .i64 0] from rfl) (Reps.none _ _))))
                  intro v308 w29 ho30 hb hg_ hnew_
                  clear hg_ hnew_
                  (first | rw [← Ny307.out] at ho30 | (simp only [Int.reduceToNat] at ho30; rw [← Ny307.out] at ho30))
                  have n0_ := Aside0.mk (Kd.V_elder' (Kd.vk HO_301001) (Kd.R_base ho30) hb)
                  have n1_ := Aside0.mk (Kd.R_elder' (Kd.rk HO306) (Kd.R_base ho30) hb)
                  have n2_ := Aside0.mk (Kd.R_lower (Kd.R_new' (Kd.R_newM (M := fun k_ => (w.heap.size ≤ k_)) ho30 (below_size (gw_ HB)) (fun k_ h_ => h_)) (Kd.R_lt (Kd.rk HO306))) (below_size (gw_ HB)))
                  have n3_ := Aside0.mk (blk_below (g := gb300) (bk BK300) hb)
                  have n4_ := Aside0.mk (blk_below (g := gb301) (bk BK301) hb)
                  have n5_ := Aside0.mk (below_step (gw_ HB) hb)
                  clear HO_301001
                  clear HO306
                  clear BK300
                  clear BK301
                  clear HB
                  have HO_301001 := n0_
                  have HO306 := n1_
                  have HO309 := n2_
                  have BK300 := n3_
                  have BK301 := n4_
                  have HB := n5_
                  clear n0_ n1_ n2_ n3_ n4_ n5_
                  clear hb ho30
                  refine hK.out _ _ ⟨(blk_cell BK300.out 0).trans rfl, (blk_cell BK300.out 1).trans rfl⟩ (fun hHeld => ?_)
                  clear hK K
                  refine norm_ (a' := ?_) ?_ ?_
                  rotate_left
                  ·
                   show Act.put _ (some 21) _ = _
                   simp only [Act.put, List.setIfInBounds_toArray, List.set_cons_zero, List.set_cons_succ, i64_w, i32_w]
                   rfl
                  exact norm_ (by first | (simp only [putAll, Act.put, List.setIfInBounds_toArray, List.set_cons_zero, List.set_cons_succ]; done) | (simp only [putAll, Act.put, List.setIfInBounds_toArray, List.set_cons_zero, List.set_cons_succ]; rfl)) (hJ4_5 (v305, v308) _ ⟨hHeld, (Kd.rk HO306), (by (with_reducible repeat (first | apply Kd.R_alloc | apply Kd.R_drewN | apply Kd.R_drew)); exact Kd.R_mono HO309.out (fun _ hk => ⟨hk.1.1, hk.2⟩)), (by (with_reducible repeat (first | apply Kd.V_alloc | apply Kd.V_drewN | apply Kd.V_drew)); exact Kd.V_mono HO_301001.out (fun _ hk => ⟨hk.1.1, ⟨hk.1.2.1, ⟨hk.2, ⟨hk.1.2.2.1, hk.1.2.2.2⟩⟩⟩⟩)), (bk BK300), (bk BK301), (gw_ HB)⟩)
                 ·
                  skip
                  refine box_step ?hg (N := 6) ?hd (cs := #[.int .i64 0, .slice none 0 0]) (t := 27) ?hr ?_; (case hd => rfl); (case hg => rfl); (case hr => first | (go_simp; done) | (go_simp; rfl))
                  intro gb313 hg w29 hbox hb
                  have n0_ := Aside0.mk (Kd.V_below (Kd.V_elderB (Kd.vk HO_301001) gb313 (Nat.le_of_eq hg.symm)) hb)
                  have n1_ := Aside0.mk (Kd.R_below (Kd.rk HO306) hb)
                  have n2_ := Aside0.mk (blk_below (g := gb300) (bk BK300) hb)
                  have n3_ := Aside0.mk (blk_below (g := gb301) (bk BK301) hb)
                  have n4_ := Aside0.mk (below_step (gw_ HB) hb)
                  have n5_ := Aside0.mk (hbox)
                  have n6_ := Aside0.mk ((by rw [hg]; exact (below_size (gw_ HB)) : w.heap.size ≤ gb313))
                  have n7_ := Aside0.mk ((by rw [hg]; exact (below_size (gw_ HB)) : w.heap.size ≤ gb313))
                  have n8_ := Aside0.mk ((by rw [hg]; exact Nat.ne_of_lt (blk_lt (g := gb300) (bk BK300)) : gb300 ≠ gb313))
                  have n9_ := Aside0.mk ((by rw [hg]; exact Nat.ne_of_gt (blk_lt (g := gb300) (bk BK300)) : gb313 ≠ gb300))
                  have n10_ := Aside0.mk ((by rw [hg]; exact Nat.ne_of_lt (blk_lt (g := gb301) (bk BK301)) : gb301 ≠ gb313))
                  have n11_ := Aside0.mk ((by rw [hg]; exact Nat.ne_of_gt (blk_lt (g := gb301) (bk BK301)) : gb313 ≠ gb301))
                  clear HO_301001
                  clear HO306
                  clear BK300
                  clear BK301
                  clear HB
                  have HO_301001 := n0_
                  have HO306 := n1_
                  have BK300 := n2_
                  have BK301 := n3_
                  have HB := n4_
                  have BK313 := n5_
                  have GW313 := n6_
                  have GE313 := n7_
                  have NB300_313 := n8_
                  have NB313_300 := n9_
                  have NB301_313 := n10_
                  have NB313_301 := n11_
                  clear n0_ n1_ n2_ n3_ n4_ n5_ n6_ n7_ n8_ n9_ n10_ n11_
                  clear hb hbox hg
                  refine hK.out _ _ ⟨(blk_cell BK300.out 0).trans rfl, (blk_cell BK300.out 1).trans rfl⟩ (fun hHeld => ?_)
                  clear hK K
                  refine norm_ (a' := ?_) ?_ ?_
                  rotate_left
                  ·
                   show Act.put _ (some 6) _ = _
                   simp only [Act.put, List.setIfInBounds_toArray, List.set_cons_zero, List.set_cons_succ, i64_w, i32_w]
                   rfl
                  exact norm_ (by first | (simp only [putAll, Act.put, List.setIfInBounds_toArray, List.set_cons_zero, List.set_cons_succ]; done) | (simp only [putAll, Act.put, List.setIfInBounds_toArray, List.set_cons_zero, List.set_cons_succ]; rfl)) (hJ4_8 (v305, gb313) _ ⟨hHeld, (Kd.rk HO306), (by (with_reducible repeat (first | apply Kd.V_alloc | apply Kd.V_drewN | apply Kd.V_drew)); exact Kd.V_mono HO_301001.out (fun _ hk => ⟨hk.1.1, ⟨hk.1.2.1, ⟨hk.1.2.2.1, ⟨hk.1.2.2.2, hk.2⟩⟩⟩⟩)), (bk BK300), (bk BK301), (bk BK313), GW313.out, GE313.out, NB300_313.out, NB313_300.out, NB301_313.out, NB313_301.out, (gw_ HB)⟩)
               ·
                skip
                rintro ⟨v308, gb313⟩ w30 ⟨hS_, h0_, h1_, h2_, h3_, h4_, h5_, h6_, h7_, h8_, h9_, h10_, h11_⟩
                have n0_ : Aside0 (Kd.R (Kd.int .i64) 3 w30 w.heap.size (fun k_ => (w.heap.size ≤ k_)) v308 y307) := ⟨h0_⟩
                have n1_ : Aside0 (Kd.V (Kd.int .i64) 3 w30 w.heap.size (fun k_ => (P0_1_ k_ ∨ w.heap.size ≤ k_) ∧ some k_ ≠ (v308 : Value).ownBlock ∧ k_ ≠ gb300 ∧ k_ ≠ gb301 ∧ k_ ≠ gb313) (.slice A0_1 l0_1.length c0_1) l0_1) := ⟨h1_⟩
                have n2_ : Aside0 (w30.heap[gb300]? = some (.cells #[.int .i64 a0_0, .slice A0_1 l0_1.length c0_1] 27 (0, 0))) := ⟨h2_⟩
                have n3_ : Aside0 (w30.heap[gb301]? = some (.cells #[.int .i64 a1_0, .int .i64 a1_1] 33 (0, 0))) := ⟨h3_⟩
                have n4_ : Aside0 (w30.heap[gb313]? = some (.cells #[.int .i64 0, .slice none 0 0] 27 (0, 0))) := ⟨h4_⟩
                have n5_ : Aside0 (w.heap.size ≤ gb313) := ⟨h5_⟩
                have n6_ : Aside0 (w.heap.size ≤ gb313) := ⟨h6_⟩
                have n7_ : Aside0 (gb300 ≠ gb313) := ⟨h7_⟩
                have n8_ : Aside0 (gb313 ≠ gb300) := ⟨h8_⟩
                have n9_ : Aside0 (gb301 ≠ gb313) := ⟨h9_⟩
                have n10_ : Aside0 (gb313 ≠ gb301) := ⟨h10_⟩
                have n11_ : Aside0 (Below w.heap.size w w30) := ⟨h11_⟩
                clear HO_301001
                clear BK300
                clear BK301
                clear HB
                clear h0_ h1_ h2_ h3_ h4_ h5_ h6_ h7_ h8_ h9_ h10_ h11_
                have HO309 := n0_
                have HO_301001 := n1_
                have BK300 := n2_
                have BK301 := n3_
                have BK313 := n4_
                have GW313 := n5_
                have GE313 := n6_
                have NB300_313 := n7_
                have NB313_300 := n8_
                have NB301_313 := n9_
                have NB313_301 := n10_
                have HB := n11_
                clear n0_ n1_ n2_ n3_ n4_ n5_ n6_ n7_ n8_ n9_ n10_ n11_
                have hHeld : w30.cell? ⟨gb300, 0, none⟩ = some (.int .i64 a0_0) ∧ w30.cell? ⟨gb300, 1, none⟩ = some (.slice A0_1 l0_1.length c0_1) := hS_
                refine norm_ (a' := ?_) ?_ ?_
                rotate_left
                ·
                 simp only [putAll, Act.put, List.setIfInBounds_toArray, List.set_cons_zero, List.set_cons_succ]
                 rfl
                refine one_ (i := 4) (N := some 20) q8_49 rfl rfl (one_of HT_.out (by kernel_rfl)) (by decide) (fun K hK => ?_)
                refine Kd.R_append_rows_step (Kd.int .i64) (w0 := w) w.heap.size (by rfl) (.const (.slice none 0 0)) (.tmp 19) 25 3 (.int .i64 0) 8 rfl Try.underlying25 info3 rfl (by decide) (by omega) (.slice none 0 0) ([] : List Int) l0_1 _ _ _ (fun k_ => (w.heap.size ≤ k_) ∧ some k_ ≠ (v308 : Value).ownBlock) (fun _ => False) rfl rfl ?aO ?aR (fun _ _ h => h) (fun _ h => h.elim) ?aF ?aB ?aS ?aL ?_
                (case aR => repeat (first | exact (Kd.V_reads' HO_301001.out).2.2 | (with_reducible refine Kd.C_alloc ?_ _) | (with_reducible refine Kd.C_drewN ?_ _) | (with_reducible refine Kd.C_drew ?_)))
                (case aB => exact (gw_ HB))
                (case aF => exact (fun k_ hk => ⟨(Nat.le_trans (below_size (gw_ HB)) hk), Kd.fresh' (Kd.R_lt (Kd.rk HO309)) k_ hk⟩))
                (case aO => exact ((Kd.R_nil _ _ _ _ (fun k_ => (w.heap.size ≤ k_) ∧ some k_ ≠ (v308 : Value).ownBlock))))
                (case aS => exact (below_size (gw_ HB)))
                (case aL => have := LMc14.out; omega)
                intro v305 w31 ho hb hg hat
                rw [← Ny304.out] at ho
                have n0_ := Aside0.mk (Kd.V_afterv (Kd.V_apart_nil (Kd.vk HO_301001)) hg hat)
                have n1_ := Aside0.mk (blk_grown (g := gb300) (bk BK300) hg (by simp [Value.ownBlock]))
                have n2_ := Aside0.mk (blk_grown (g := gb301) (bk BK301) hg (by simp [Value.ownBlock]))
                have n3_ := Aside0.mk (Kd.R_after (Kd.R_apart_nil (Kd.rk HO309)) hg hat)
                have n4_ := Aside0.mk (blk_grown (g := gb313) (bk BK313) hg (by simp [Value.ownBlock]))
                have n5_ := Aside0.mk (hb)
                have n6_ := Aside0.mk (ho)
                clear HO_301001
                clear BK300
                clear BK301
                clear HO309
                clear BK313
                clear HB
                have HO_301001 := n0_
                have BK300 := n1_
                have BK301 := n2_
                have HO309 := n3_
                have BK313 := n4_
                have HB := n5_
                have HO306 := n6_
                clear n0_ n1_ n2_ n3_ n4_ n5_ n6_
                clear ho hb hg hat
                refine hK.out _ _ ⟨(blk_cell BK300.out 0).trans rfl, (blk_cell BK300.out 1).trans rfl⟩ (fun hHeld => ?_)
                clear hK K
                refine norm_ (a' := ?_) ?_ ?_
                rotate_left
                ·
                 show Act.put _ (some 20) _ = _
                 simp only [Act.put, List.setIfInBounds_toArray, List.set_cons_zero, List.set_cons_succ, i64_w, i32_w]
                 rfl
                exact norm_ (by first | (simp only [putAll, Act.put, List.setIfInBounds_toArray, List.set_cons_zero, List.set_cons_succ]; done) | (simp only [putAll, Act.put, List.setIfInBounds_toArray, List.set_cons_zero, List.set_cons_succ]; rfl)) (hJ4_5_8 (v305, v308, gb313) _ ⟨hHeld, (Kd.rk HO306), (Kd.rk HO309), (by (with_reducible repeat (first | apply Kd.V_alloc | apply Kd.V_drewN | apply Kd.V_drew)); exact Kd.V_mono HO_301001.out (fun _ hk => ⟨hk.1.1, ⟨hk.2, ⟨hk.1.2.1, ⟨hk.1.2.2.1, ⟨hk.1.2.2.2.1, hk.1.2.2.2.2⟩⟩⟩⟩⟩)), (bk BK300), (bk BK301), (bk BK313), GW313.out, GE313.out, NB300_313.out, NB313_300.out, NB301_313.out, NB313_301.out, (gw_ HB)⟩)
              ·
               skip
               rintro ⟨v305, gb313⟩ w29 ⟨hS_, h0_, h1_, h2_, h3_, h4_, h5_, h6_, h7_, h8_, h9_, h10_, h11_⟩
               have n0_ : Aside0 (Kd.R (Kd.int .i64) 3 w29 w.heap.size (fun k_ => (w.heap.size ≤ k_)) v305 y304) := ⟨h0_⟩
               have n1_ : Aside0 (Kd.V (Kd.int .i64) 3 w29 w.heap.size (fun k_ => (P0_1_ k_ ∨ w.heap.size ≤ k_) ∧ some k_ ≠ (v305 : Value).ownBlock ∧ k_ ≠ gb300 ∧ k_ ≠ gb301 ∧ k_ ≠ gb313) (.slice A0_1 l0_1.length c0_1) l0_1) := ⟨h1_⟩
               have n2_ : Aside0 (w29.heap[gb300]? = some (.cells #[.int .i64 a0_0, .slice A0_1 l0_1.length c0_1] 27 (0, 0))) := ⟨h2_⟩
               have n3_ : Aside0 (w29.heap[gb301]? = some (.cells #[.int .i64 a1_0, .int .i64 a1_1] 33 (0, 0))) := ⟨h3_⟩
               have n4_ : Aside0 (w29.heap[gb313]? = some (.cells #[.int .i64 0, .slice none 0 0] 27 (0, 0))) := ⟨h4_⟩
               have n5_ : Aside0 (w.heap.size ≤ gb313) := ⟨h5_⟩
               have n6_ : Aside0 (w.heap.size ≤ gb313) := ⟨h6_⟩
               have n7_ : Aside0 (gb300 ≠ gb313) := ⟨h7_⟩
               have n8_ : Aside0 (gb313 ≠ gb300) := ⟨h8_⟩
               have n9_ : Aside0 (gb301 ≠ gb313) := ⟨h9_⟩
               have n10_ : Aside0 (gb313 ≠ gb301) := ⟨h10_⟩
               have n11_ : Aside0 (Below w.heap.size w w29) := ⟨h11_⟩
               clear HO_301001
               clear BK300
               clear BK301
               clear HB
               clear h0_ h1_ h2_ h3_ h4_ h5_ h6_ h7_ h8_ h9_ h10_ h11_
               have HO306 := n0_
               have HO_301001 := n1_
               have BK300 := n2_
               have BK301 := n3_
               have BK313 := n4_
               have GW313 := n5_
               have GE313 := n6_
               have NB300_313 := n7_
               have NB313_300 := n8_
               have NB301_313 := n9_
               have NB313_301 := n10_
               have HB := n11_
               clear n0_ n1_ n2_ n3_ n4_ n5_ n6_ n7_ n8_ n9_ n10_ n11_
               have hHeld : w29.cell? ⟨gb300, 0, none⟩ = some (.int .i64 a0_0) ∧ w29.cell? ⟨gb300, 1, none⟩ = some (.slice A0_1 l0_1.length c0_1) := hS_
               refine norm_ (a' := ?_) ?_ ?_
               rotate_left
               ·
                simp only [putAll, Act.put, List.setIfInBounds_toArray, List.set_cons_zero, List.set_cons_succ]
                rfl
               refine one_ (i := 5) (N := some 21) q8_49 rfl rfl (one_of HT_.out (by kernel_rfl)) (by decide) (fun K hK => ?_)
               refine Kd.R_lit_step (Kd.int .i64) _ 3 ?hg (N := 21) ?hd (xs := ([0, 0] : List Int)) (inner := [.int .i64 0, .int .i64 0]) (ok := fun _ => True) (okp := fun _ => True) ?hr ?hp (fun _ hk => hk) trivial (Below.refl _ _) (Nat.le_refl _) (by simp) ?_; (case hd => rfl); (case hg => rfl); (case hr => first | (go_simp; done) | (go_simp; rfl)); (case hp => exact (Reps.one (show Kd.M (Kd.int .i64) _ _ _ 0 [.int .i64 0] from rfl) (Reps.one (show Kd.M (Kd.int .i64) _ _ _ 0 [.int .i64 0] from rfl) (Reps.none _ _))))
               intro v308 w30 ho31 hb hg_ hnew_
               clear hg_ hnew_
               (first | rw [← Ny307.out] at ho31 | (simp only [Int.reduceToNat] at ho31; rw [← Ny307.out] at ho31))
               have n0_ := Aside0.mk (Kd.V_elder' (Kd.vk HO_301001) (Kd.R_base ho31) hb)
               have n1_ := Aside0.mk (Kd.R_elder' (Kd.rk HO306) (Kd.R_base ho31) hb)
               have n2_ := Aside0.mk (Kd.R_lower (Kd.R_new' (Kd.R_newM (M := fun k_ => (w.heap.size ≤ k_)) ho31 (below_size (gw_ HB)) (fun k_ h_ => h_)) (Kd.R_lt (Kd.rk HO306))) (below_size (gw_ HB)))
               have n3_ := Aside0.mk (blk_below (g := gb300) (bk BK300) hb)
               have n4_ := Aside0.mk (blk_below (g := gb301) (bk BK301) hb)
               have n5_ := Aside0.mk (blk_below (g := gb313) (bk BK313) hb)
               have n6_ := Aside0.mk (below_step (gw_ HB) hb)
               clear HO_301001
               clear HO306
               clear BK300
               clear BK301
               clear BK313
               clear HB
               have HO_301001 := n0_
               have HO306 := n1_
               have HO309 := n2_
               have BK300 := n3_
               have BK301 := n4_
               have BK313 := n5_
               have HB := n6_
               clear n0_ n1_ n2_ n3_ n4_ n5_ n6_
               clear hb ho31
               refine hK.out _ _ ⟨(blk_cell BK300.out 0).trans rfl, (blk_cell BK300.out 1).trans rfl⟩ (fun hHeld => ?_)
               clear hK K
               refine norm_ (a' := ?_) ?_ ?_
               rotate_left
               ·
                show Act.put _ (some 21) _ = _
                simp only [Act.put, List.setIfInBounds_toArray, List.set_cons_zero, List.set_cons_succ, i64_w, i32_w]
                rfl
               exact norm_ (by first | (simp only [putAll, Act.put, List.setIfInBounds_toArray, List.set_cons_zero, List.set_cons_succ]; done) | (simp only [putAll, Act.put, List.setIfInBounds_toArray, List.set_cons_zero, List.set_cons_succ]; rfl)) (hJ4_5_8 (v305, v308, gb313) _ ⟨hHeld, (Kd.rk HO306), (by (with_reducible repeat (first | apply Kd.R_alloc | apply Kd.R_drewN | apply Kd.R_drew)); exact Kd.R_mono HO309.out (fun _ hk => ⟨hk.1.1, hk.2⟩)), (by (with_reducible repeat (first | apply Kd.V_alloc | apply Kd.V_drewN | apply Kd.V_drew)); exact Kd.V_mono HO_301001.out (fun _ hk => ⟨hk.1.1, ⟨hk.1.2.1, ⟨hk.2, ⟨hk.1.2.2.1, ⟨hk.1.2.2.2.1, hk.1.2.2.2.2⟩⟩⟩⟩⟩)), (bk BK300), (bk BK301), (bk BK313), GW313.out, GE313.out, NB300_313.out, NB313_300.out, NB301_313.out, NB313_301.out, (gw_ HB)⟩)
             ·
              skip
              rintro ⟨v305, v308⟩ w30 ⟨hS_, h0_, h1_, h2_, h3_, h4_, h5_⟩
              have n0_ : Aside0 (Kd.R (Kd.int .i64) 3 w30 w.heap.size (fun k_ => (w.heap.size ≤ k_) ∧ some k_ ≠ (v308 : Value).ownBlock) v305 y304) := ⟨h0_⟩
              have n1_ : Aside0 (Kd.R (Kd.int .i64) 3 w30 w.heap.size (fun k_ => (w.heap.size ≤ k_) ∧ some k_ ≠ (v305 : Value).ownBlock) v308 y307) := ⟨h1_⟩
              have n2_ : Aside0 (Kd.V (Kd.int .i64) 3 w30 w.heap.size (fun k_ => (P0_1_ k_ ∨ w.heap.size ≤ k_) ∧ some k_ ≠ (v305 : Value).ownBlock ∧ some k_ ≠ (v308 : Value).ownBlock ∧ k_ ≠ gb300 ∧ k_ ≠ gb301) (.slice A0_1 l0_1.length c0_1) l0_1) := ⟨h2_⟩
              have n3_ : Aside0 (w30.heap[gb300]? = some (.cells #[.int .i64 a0_0, .slice A0_1 l0_1.length c0_1] 27 (0, 0))) := ⟨h3_⟩
              have n4_ : Aside0 (w30.heap[gb301]? = some (.cells #[.int .i64 a1_0, .int .i64 a1_1] 33 (0, 0))) := ⟨h4_⟩
              have n5_ : Aside0 (Below w.heap.size w w30) := ⟨h5_⟩
              clear HO_301001
              clear BK300
              clear BK301
              clear HB
              clear h0_ h1_ h2_ h3_ h4_ h5_
              have HO306 := n0_
              have HO309 := n1_
              have HO_301001 := n2_
              have BK300 := n3_
              have BK301 := n4_
              have HB := n5_
              clear n0_ n1_ n2_ n3_ n4_ n5_
              have hHeld : w30.cell? ⟨gb300, 0, none⟩ = some (.int .i64 a0_0) ∧ w30.cell? ⟨gb300, 1, none⟩ = some (.slice A0_1 l0_1.length c0_1) := hS_
              obtain ⟨Ao32, co32, eo32⟩ := Kd.R_slice HO309.out
              (first | subst eo32 | (injection eo32 with f1_ f2_ f3_; have f4_ := f1_.symm; have f5_ := f3_.symm; clear f1_ f2_ f3_; subst f4_; subst f5_))
              refine norm_ (a' := ?_) ?_ ?_
              rotate_left
              ·
               simp only [putAll, Act.put, List.setIfInBounds_toArray, List.set_cons_zero, List.set_cons_succ]
               rfl
              refine two_ (i := 6) (j := 8) (Ni := some 22) (Nj := some 6) q8_50 q8_49 rfl rfl rfl rfl (two_of HT_.out (by kernel_rfl)) (by decide) (by decide) (fun K hK => ?_) (fun K hK => ?_)
              ·
               skip
               refine Kd.R_append_rows_step (Kd.int .i64) (w0 := w) w.heap.size (by rfl) (.tmp 20) (.tmp 21) 25 3 (.int .i64 0) 8 rfl Try.underlying25 info3 rfl (by decide) (by omega) v305 y304 y307 _ _ _ (fun k_ => (w.heap.size ≤ k_) ∧ some k_ ≠ (.slice Ao32 y307.length co32 : Value).ownBlock) (fun _ => False) rfl rfl ?aO ?aR (fun _ _ h => h) (fun _ h => h.elim) ?aF ?aB ?aS ?aL ?_
               (case aR => repeat (first | exact (Kd.R_reads' HO309.out).2.2 | (with_reducible refine Kd.C_alloc ?_ _) | (with_reducible refine Kd.C_drewN ?_ _) | (with_reducible refine Kd.C_drew ?_)))
               (case aB => exact (gw_ HB))
               (case aF => exact (fun k_ hk => ⟨(Nat.le_trans (below_size (gw_ HB)) hk), Kd.fresh' (Kd.R_lt (Kd.rk HO309)) k_ hk⟩))
               (case aO => exact (Kd.rk HO306))
               (case aS => exact (below_size (gw_ HB)))
               (case aL => have := LMc15.out; omega)
               intro v311 w31 ho hb hg hat
               rw [← Ny310.out] at ho
               have n0_ := Aside0.mk (Kd.V_afterv (ok := (fun k_ => (P0_1_ k_ ∨ w.heap.size ≤ k_) ∧ some k_ ≠ (.slice Ao32 y307.length co32 : Value).ownBlock ∧ k_ ≠ gb300 ∧ k_ ≠ gb301)) (by (with_reducible repeat (first | apply Kd.V_alloc | apply Kd.V_drewN | apply Kd.V_drew)); exact Kd.V_mono HO_301001.out (fun _ hk => ⟨⟨hk.1, ⟨hk.2.2.1, ⟨hk.2.2.2.1, hk.2.2.2.2⟩⟩⟩, hk.2.1⟩)) hg hat)
               have n1_ := Aside0.mk (blk_grown (g := gb300) (bk BK300) hg (Kd.R_ne HO306.out BK300.out (by decide)))
               have n2_ := Aside0.mk (blk_grown (g := gb301) (bk BK301) hg (Kd.R_ne HO306.out BK301.out (by decide)))
               have n3_ := Aside0.mk (Kd.R_after (ok := (fun k_ => (w.heap.size ≤ k_))) (Kd.rk HO309) hg hat)
               have n4_ := Aside0.mk (hb)
               have n5_ := Aside0.mk (ho)
               clear HO_301001
               clear BK300
               clear BK301
               clear HO309
               clear HB
               clear HO306
               have HO_301001 := n0_
               have BK300 := n1_
               have BK301 := n2_
               have HO309 := n3_
               have HB := n4_
               have HO312 := n5_
               clear n0_ n1_ n2_ n3_ n4_ n5_
               clear ho hb hg hat
               obtain ⟨Ao33, co33, eo33⟩ := Kd.R_slice HO312.out
               (first | subst eo33 | (injection eo33 with f1_ f2_ f3_; have f4_ := f1_.symm; have f5_ := f3_.symm; clear f1_ f2_ f3_; subst f4_; subst f5_))
               refine hK.out _ _ ⟨(blk_cell BK300.out 0).trans rfl, (blk_cell BK300.out 1).trans rfl⟩ (fun hHeld => ?_)
               clear hK K
               refine norm_ (a' := ?_) ?_ ?_
               rotate_left
               ·
                show Act.put _ (some 22) _ = _
                simp only [Act.put, List.setIfInBounds_toArray, List.set_cons_zero, List.set_cons_succ, i64_w, i32_w]
                rfl
               refine pure_ (i := 7) (N := some 23) (v := ?_) (a' := ?_) q8_52 rfl rfl (any_of HT_.out (by kernel_rfl)) (fun _ _ _ h => h) (Or.inl ⟨by rfl, ?_⟩) ?_ ?_
               rotate_left
               ·
                intro w'
                go_simp
                with_reducible rfl
               rotate_left
               ·
                simp only [Act.put, List.setIfInBounds_toArray, List.set_cons_zero, List.set_cons_succ, i64_w, i32_w]
                rfl
               exact norm_ (by first | (simp only [putAll, Act.put, List.setIfInBounds_toArray, List.set_cons_zero, List.set_cons_succ]; done) | (simp only [putAll, Act.put, List.setIfInBounds_toArray, List.set_cons_zero, List.set_cons_succ]; rfl)) (hJ4_5_6 (v305, .slice Ao32 y307.length co32, .slice Ao33 y310.length co33) _ ⟨hHeld, (Kd.rk HO309), (Kd.rk HO312), (by (with_reducible repeat (first | apply Kd.V_alloc | apply Kd.V_drewN | apply Kd.V_drew)); exact Kd.V_mono HO_301001.out (fun _ hk => ⟨hk.1.1, ⟨hk.1.2.1, ⟨hk.2, ⟨hk.1.2.2.1, hk.1.2.2.2⟩⟩⟩⟩)), (bk BK300), (bk BK301), (gw_ HB)⟩)
              ·
               skip
               refine box_step ?hg (N := 6) ?hd (cs := #[.int .i64 0, .slice none 0 0]) (t := 27) ?hr ?_; (case hd => rfl); (case hg => rfl); (case hr => first | (go_simp; done) | (go_simp; rfl))
               intro gb313 hg w31 hbox hb
               have n0_ := Aside0.mk (Kd.V_below (Kd.V_elderB (Kd.vk HO_301001) gb313 (Nat.le_of_eq hg.symm)) hb)
               have n1_ := Aside0.mk (Kd.R_below (Kd.rk HO306) hb)
               have n2_ := Aside0.mk (Kd.R_below (Kd.rk HO309) hb)
               have n3_ := Aside0.mk (blk_below (g := gb300) (bk BK300) hb)
               have n4_ := Aside0.mk (blk_below (g := gb301) (bk BK301) hb)
               have n5_ := Aside0.mk (below_step (gw_ HB) hb)
               have n6_ := Aside0.mk (hbox)
               have n7_ := Aside0.mk ((by rw [hg]; exact (below_size (gw_ HB)) : w.heap.size ≤ gb313))
               have n8_ := Aside0.mk ((by rw [hg]; exact (below_size (gw_ HB)) : w.heap.size ≤ gb313))
               have n9_ := Aside0.mk ((by rw [hg]; exact Nat.ne_of_lt (blk_lt (g := gb300) (bk BK300)) : gb300 ≠ gb313))
               have n10_ := Aside0.mk ((by rw [hg]; exact Nat.ne_of_gt (blk_lt (g := gb300) (bk BK300)) : gb313 ≠ gb300))
               have n11_ := Aside0.mk ((by rw [hg]; exact Nat.ne_of_lt (blk_lt (g := gb301) (bk BK301)) : gb301 ≠ gb313))
               have n12_ := Aside0.mk ((by rw [hg]; exact Nat.ne_of_gt (blk_lt (g := gb301) (bk BK301)) : gb313 ≠ gb301))
               clear HO_301001
               clear HO306
               clear HO309
               clear BK300
               clear BK301
               clear HB
               have HO_301001 := n0_
               have HO306 := n1_
               have HO309 := n2_
               have BK300 := n3_
               have BK301 := n4_
               have HB := n5_
               have BK313 := n6_
               have GW313 := n7_
               have GE313 := n8_
               have NB300_313 := n9_
               have NB313_300 := n10_
               have NB301_313 := n11_
               have NB313_301 := n12_
               clear n0_ n1_ n2_ n3_ n4_ n5_ n6_ n7_ n8_ n9_ n10_ n11_ n12_
               clear hb hbox hg
               refine hK.out _ _ ⟨(blk_cell BK300.out 0).trans rfl, (blk_cell BK300.out 1).trans rfl⟩ (fun hHeld => ?_)
               clear hK K
               refine norm_ (a' := ?_) ?_ ?_
               rotate_left
               ·
                show Act.put _ (some 6) _ = _
                simp only [Act.put, List.setIfInBounds_toArray, List.set_cons_zero, List.set_cons_succ, i64_w, i32_w]
                rfl
               exact norm_ (by first | (simp only [putAll, Act.put, List.setIfInBounds_toArray, List.set_cons_zero, List.set_cons_succ]; done) | (simp only [putAll, Act.put, List.setIfInBounds_toArray, List.set_cons_zero, List.set_cons_succ]; rfl)) (hJ4_5_8 (v305, _, gb313) _ ⟨hHeld, (Kd.rk HO306), (Kd.rk HO309), (by (with_reducible repeat (first | apply Kd.V_alloc | apply Kd.V_drewN | apply Kd.V_drew)); exact Kd.V_mono HO_301001.out (fun _ hk => ⟨hk.1.1, ⟨hk.1.2.1, ⟨hk.1.2.2.1, ⟨hk.1.2.2.2.1, ⟨hk.1.2.2.2.2, hk.2⟩⟩⟩⟩⟩)), (bk BK300), (bk BK301), (bk BK313), GW313.out, GE313.out, NB300_313.out, NB313_300.out, NB301_313.out, NB313_301.out, (gw_ HB)⟩)
            ·
             skip
             rintro ⟨v305, v308, gb313⟩ w31 ⟨hS_, h0_, h1_, h2_, h3_, h4_, h5_, h6_, h7_, h8_, h9_, h10_, h11_, h12_⟩
             have n0_ : Aside0 (Kd.R (Kd.int .i64) 3 w31 w.heap.size (fun k_ => (w.heap.size ≤ k_) ∧ some k_ ≠ (v308 : Value).ownBlock) v305 y304) := ⟨h0_⟩
             have n1_ : Aside0 (Kd.R (Kd.int .i64) 3 w31 w.heap.size (fun k_ => (w.heap.size ≤ k_) ∧ some k_ ≠ (v305 : Value).ownBlock) v308 y307) := ⟨h1_⟩
             have n2_ : Aside0 (Kd.V (Kd.int .i64) 3 w31 w.heap.size (fun k_ => (P0_1_ k_ ∨ w.heap.size ≤ k_) ∧ some k_ ≠ (v305 : Value).ownBlock ∧ some k_ ≠ (v308 : Value).ownBlock ∧ k_ ≠ gb300 ∧ k_ ≠ gb301 ∧ k_ ≠ gb313) (.slice A0_1 l0_1.length c0_1) l0_1) := ⟨h2_⟩
             have n3_ : Aside0 (w31.heap[gb300]? = some (.cells #[.int .i64 a0_0, .slice A0_1 l0_1.length c0_1] 27 (0, 0))) := ⟨h3_⟩
             have n4_ : Aside0 (w31.heap[gb301]? = some (.cells #[.int .i64 a1_0, .int .i64 a1_1] 33 (0, 0))) := ⟨h4_⟩
             have n5_ : Aside0 (w31.heap[gb313]? = some (.cells #[.int .i64 0, .slice none 0 0] 27 (0, 0))) := ⟨h5_⟩
             have n6_ : Aside0 (w.heap.size ≤ gb313) := ⟨h6_⟩
             have n7_ : Aside0 (w.heap.size ≤ gb313) := ⟨h7_⟩
             have n8_ : Aside0 (gb300 ≠ gb313) := ⟨h8_⟩
             have n9_ : Aside0 (gb313 ≠ gb300) := ⟨h9_⟩
             have n10_ : Aside0 (gb301 ≠ gb313) := ⟨h10_⟩
             have n11_ : Aside0 (gb313 ≠ gb301) := ⟨h11_⟩
             have n12_ : Aside0 (Below w.heap.size w w31) := ⟨h12_⟩
             clear HO_301001
             clear BK300
             clear BK301
             clear HB
             clear h0_ h1_ h2_ h3_ h4_ h5_ h6_ h7_ h8_ h9_ h10_ h11_ h12_
             have HO306 := n0_
             have HO309 := n1_
             have HO_301001 := n2_
             have BK300 := n3_
             have BK301 := n4_
             have BK313 := n5_
             have GW313 := n6_
             have GE313 := n7_
             have NB300_313 := n8_
             have NB313_300 := n9_
             have NB301_313 := n10_
             have NB313_301 := n11_
             have HB := n12_
             clear n0_ n1_ n2_ n3_ n4_ n5_ n6_ n7_ n8_ n9_ n10_ n11_ n12_
             have hHeld : w31.cell? ⟨gb300, 0, none⟩ = some (.int .i64 a0_0) ∧ w31.cell? ⟨gb300, 1, none⟩ = some (.slice A0_1 l0_1.length c0_1) := hS_
             obtain ⟨Ao33, co33, eo33⟩ := Kd.R_slice HO309.out
             (first | subst eo33 | (injection eo33 with f1_ f2_ f3_; have f4_ := f1_.symm; have f5_ := f3_.symm; clear f1_ f2_ f3_; subst f4_; subst f5_))
             refine norm_ (a' := ?_) ?_ ?_
             rotate_left
             ·
              simp only [putAll, Act.put, List.setIfInBounds_toArray, List.set_cons_zero, List.set_cons_succ]
              rfl
             refine one_ (i := 6) (N := some 22) q8_51 rfl rfl (one_of HT_.out (by kernel_rfl)) (by decide) (fun K hK => ?_)
             refine Kd.R_append_rows_step (Kd.int .i64) (w0 := w) w.heap.size (by rfl) (.tmp 20) (.tmp 21) 25 3 (.int .i64 0) 8 rfl Try.underlying25 info3 rfl (by decide) (by omega) v305 y304 y307 _ _ _ (fun k_ => (w.heap.size ≤ k_) ∧ some k_ ≠ (.slice Ao33 y307.length co33 : Value).ownBlock) (fun _ => False) rfl rfl ?aO ?aR (fun _ _ h => h) (fun _ h => h.elim) ?aF ?aB ?aS ?aL ?_
             (case aR => repeat (first | exact (Kd.R_reads' HO309.out).2.2 | (with_reducible refine Kd.C_alloc ?_ _) | (with_reducible refine Kd.C_drewN ?_ _) | (with_reducible refine Kd.C_drew ?_)))
             (case aB => exact (gw_ HB))
             (case aF => exact (fun k_ hk => ⟨(Nat.le_trans (below_size (gw_ HB)) hk), Kd.fresh' (Kd.R_lt (Kd.rk HO309)) k_ hk⟩))
             (case aO => exact (Kd.rk HO306))
             (case aS => exact (below_size (gw_ HB)))
             (case aL => have := LMc15.out; omega)
             intro v311 w32 ho hb hg hat
             rw [← Ny310.out] at ho
             have n0_ := Aside0.mk (Kd.V_afterv (ok := (fun k_ => (P0_1_ k_ ∨ w.heap.size ≤ k_) ∧ some k_ ≠ (.slice Ao33 y307.length co33 : Value).ownBlock ∧ k_ ≠ gb300 ∧ k_ ≠ gb301 ∧ k_ ≠ gb313)) (by (with_reducible repeat (first | apply Kd.V_alloc | apply Kd.V_drewN | apply Kd.V_drew)); exact Kd.V_mono HO_301001.out (fun _ hk => ⟨⟨hk.1, ⟨hk.2.2.1, ⟨hk.2.2.2.1, ⟨hk.2.2.2.2.1, hk.2.2.2.2.2⟩⟩⟩⟩, hk.2.1⟩)) hg hat)
             have n1_ := Aside0.mk (blk_grown (g := gb300) (bk BK300) hg (Kd.R_ne HO306.out BK300.out (by decide)))
             have n2_ := Aside0.mk (blk_grown (g := gb301) (bk BK301) hg (Kd.R_ne HO306.out BK301.out (by decide)))
             have n3_ := Aside0.mk (Kd.R_after (ok := (fun k_ => (w.heap.size ≤ k_))) (Kd.rk HO309) hg hat)
             have n4_ := Aside0.mk (blk_grown (g := gb313) (bk BK313) hg (Kd.R_ne HO306.out BK313.out (by decide)))
             have n5_ := Aside0.mk (hb)
             have n6_ := Aside0.mk (ho)
             clear HO_301001
             clear BK300
             clear BK301
             clear HO309
             clear BK313
             clear HB
             clear HO306
             have HO_301001 := n0_
             have BK300 := n1_
             have BK301 := n2_
             have HO309 := n3_
             have BK313 := n4_
             have HB := n5_
             have HO312 := n6_
             clear n0_ n1_ n2_ n3_ n4_ n5_ n6_
             clear ho hb hg hat
             obtain ⟨Ao34, co34, eo34⟩ := Kd.R_slice HO312.out
             (first | subst eo34 | (injection eo34 with f1_ f2_ f3_; have f4_ := f1_.symm; have f5_ := f3_.symm; clear f1_ f2_ f3_; subst f4_; subst f5_))
             refine hK.out _ _ ⟨(blk_cell BK300.out 0).trans rfl, (blk_cell BK300.out 1).trans rfl⟩ (fun hHeld => ?_)
             clear hK K
             refine norm_ (a' := ?_) ?_ ?_
             rotate_left
             ·
              show Act.put _ (some 22) _ = _
              simp only [Act.put, List.setIfInBounds_toArray, List.set_cons_zero, List.set_cons_succ, i64_w, i32_w]
              rfl
             refine pure_ (i := 7) (N := some 23) (v := ?_) (a' := ?_) q8_53 rfl rfl (any_of HT_.out (by kernel_rfl)) (fun _ _ _ h => h) (Or.inl ⟨by rfl, ?_⟩) ?_ ?_
             rotate_left
             ·
              intro w'
              go_simp
              with_reducible rfl
             rotate_left
             ·
              simp only [Act.put, List.setIfInBounds_toArray, List.set_cons_zero, List.set_cons_succ, i64_w, i32_w]
              rfl
             exact norm_ (by first | (simp only [putAll, Act.put, List.setIfInBounds_toArray, List.set_cons_zero, List.set_cons_succ]; done) | (simp only [putAll, Act.put, List.setIfInBounds_toArray, List.set_cons_zero, List.set_cons_succ]; rfl)) (hJ4_5_6_8 (v305, .slice Ao33 y307.length co33, .slice Ao34 y310.length co34, gb313) _ ⟨hHeld, (Kd.rk HO309), (Kd.rk HO312), (by (with_reducible repeat (first | apply Kd.V_alloc | apply Kd.V_drewN | apply Kd.V_drew)); exact Kd.V_mono HO_301001.out (fun _ hk => ⟨hk.1.1, ⟨hk.1.2.1, ⟨hk.2, ⟨hk.1.2.2.1, ⟨hk.1.2.2.2.1, hk.1.2.2.2.2⟩⟩⟩⟩⟩)), (bk BK300), (bk BK301), (bk BK313), GW313.out, GE313.out, NB300_313.out, NB313_300.out, NB301_313.out, NB313_301.out, (gw_ HB)⟩)
           ·
            skip
            rintro ⟨v305, v308, v311⟩ w33 ⟨hS_, h0_, h1_, h2_, h3_, h4_, h5_⟩
            have n0_ : Aside0 (Kd.R (Kd.int .i64) 3 w33 w.heap.size (fun k_ => (w.heap.size ≤ k_) ∧ some k_ ≠ (v311 : Value).ownBlock) v308 y307) := ⟨h0_⟩
            have n1_ : Aside0 (Kd.R (Kd.int .i64) 3 w33 w.heap.size (fun k_ => (w.heap.size ≤ k_) ∧ some k_ ≠ (v308 : Value).ownBlock) v311 y310) := ⟨h1_⟩
            have n2_ : Aside0 (Kd.V (Kd.int .i64) 3 w33 w.heap.size (fun k_ => (P0_1_ k_ ∨ w.heap.size ≤ k_) ∧ some k_ ≠ (v308 : Value).ownBlock ∧ some k_ ≠ (v311 : Value).ownBlock ∧ k_ ≠ gb300 ∧ k_ ≠ gb301) (.slice A0_1 l0_1.length c0_1) l0_1) := ⟨h2_⟩
            have n3_ : Aside0 (w33.heap[gb300]? = some (.cells #[.int .i64 a0_0, .slice A0_1 l0_1.length c0_1] 27 (0, 0))) := ⟨h3_⟩
            have n4_ : Aside0 (w33.heap[gb301]? = some (.cells #[.int .i64 a1_0, .int .i64 a1_1] 33 (0, 0))) := ⟨h4_⟩
            have n5_ : Aside0 (Below w.heap.size w w33) := ⟨h5_⟩
            clear HO_301001
            clear BK300
            clear BK301
            clear HB
            clear h0_ h1_ h2_ h3_ h4_ h5_
            have HO309 := n0_
            have HO312 := n1_
            have HO_301001 := n2_
            have BK300 := n3_
            have BK301 := n4_
            have HB := n5_
            clear n0_ n1_ n2_ n3_ n4_ n5_
            have hHeld : w33.cell? ⟨gb300, 0, none⟩ = some (.int .i64 a0_0) ∧ w33.cell? ⟨gb300, 1, none⟩ = some (.slice A0_1 l0_1.length c0_1) := hS_
            obtain ⟨Ao34, co34, eo34⟩ := Kd.R_slice HO312.out
            (first | subst eo34 | (injection eo34 with f1_ f2_ f3_; have f4_ := f1_.symm; have f5_ := f3_.symm; clear f1_ f2_ f3_; subst f4_; subst f5_))
            refine norm_ (a' := ?_) ?_ ?_
            rotate_left
            ·
             simp only [putAll, Act.put, List.setIfInBounds_toArray, List.set_cons_zero, List.set_cons_succ]
             rfl
            refine one_ (i := 8) (N := some 6) q8_53 rfl rfl (one_of HT_.out (by kernel_rfl)) (by decide) (fun K hK => ?_)
            refine box_step ?hg (N := 6) ?hd (cs := #[.int .i64 0, .slice none 0 0]) (t := 27) ?hr ?_; (case hd => rfl); (case hg => rfl); (case hr => first | (go_simp; done) | (go_simp; rfl))
            intro gb313 hg w35 hbox hb
            have n0_ := Aside0.mk (Kd.V_below (Kd.V_elderB (Kd.vk HO_301001) gb313 (Nat.le_of_eq hg.symm)) hb)
            have n1_ := Aside0.mk (Kd.R_below (Kd.rk HO309) hb)
            have n2_ := Aside0.mk (Kd.R_below (Kd.rk HO312) hb)
            have n3_ := Aside0.mk (blk_below (g := gb300) (bk BK300) hb)
            have n4_ := Aside0.mk (blk_below (g := gb301) (bk BK301) hb)
            have n5_ := Aside0.mk (below_step (gw_ HB) hb)
            have n6_ := Aside0.mk (hbox)
            have n7_ := Aside0.mk ((by rw [hg]; exact (below_size (gw_ HB)) : w.heap.size ≤ gb313))
            have n8_ := Aside0.mk ((by rw [hg]; exact (below_size (gw_ HB)) : w.heap.size ≤ gb313))
            have n9_ := Aside0.mk ((by rw [hg]; exact Nat.ne_of_lt (blk_lt (g := gb300) (bk BK300)) : gb300 ≠ gb313))
            have n10_ := Aside0.mk ((by rw [hg]; exact Nat.ne_of_gt (blk_lt (g := gb300) (bk BK300)) : gb313 ≠ gb300))
            have n11_ := Aside0.mk ((by rw [hg]; exact Nat.ne_of_lt (blk_lt (g := gb301) (bk BK301)) : gb301 ≠ gb313))
            have n12_ := Aside0.mk ((by rw [hg]; exact Nat.ne_of_gt (blk_lt (g := gb301) (bk BK301)) : gb313 ≠ gb301))
            clear HO_301001
            clear HO309
            clear HO312
            clear BK300
            clear BK301
            clear HB
            have HO_301001 := n0_
            have HO309 := n1_
            have HO312 := n2_
            have BK300 := n3_
            have BK301 := n4_
            have HB := n5_
            have BK313 := n6_
            have GW313 := n7_
            have GE313 := n8_
            have NB300_313 := n9_
            have NB313_300 := n10_
            have NB301_313 := n11_
            have NB313_301 := n12_
            clear n0_ n1_ n2_ n3_ n4_ n5_ n6_ n7_ n8_ n9_ n10_ n11_ n12_
            clear hb hbox hg
            refine hK.out _ _ ⟨(blk_cell BK300.out 0).trans rfl, (blk_cell BK300.out 1).trans rfl⟩ (fun hHeld => ?_)
            clear hK K
            refine norm_ (a' := ?_) ?_ ?_
            rotate_left
            ·
             show Act.put _ (some 6) _ = _
             simp only [Act.put, List.setIfInBounds_toArray, List.set_cons_zero, List.set_cons_succ, i64_w, i32_w]
             rfl
            exact norm_ (by first | (simp only [putAll, Act.put, List.setIfInBounds_toArray, List.set_cons_zero, List.set_cons_succ]; done) | (simp only [putAll, Act.put, List.setIfInBounds_toArray, List.set_cons_zero, List.set_cons_succ]; rfl)) (hJ4_5_6_8 (v305, v308, .slice Ao34 y310.length co34, gb313) _ ⟨hHeld, (Kd.rk HO309), (Kd.rk HO312), (by (with_reducible repeat (first | apply Kd.V_alloc | apply Kd.V_drewN | apply Kd.V_drew)); exact Kd.V_mono HO_301001.out (fun _ hk => ⟨hk.1.1, ⟨hk.1.2.1, ⟨hk.1.2.2.1, ⟨hk.1.2.2.2.1, ⟨hk.1.2.2.2.2, hk.2⟩⟩⟩⟩⟩)), (bk BK300), (bk BK301), (bk BK313), GW313.out, GE313.out, NB300_313.out, NB313_300.out, NB301_313.out, NB313_301.out, (gw_ HB)⟩)
          rintro ⟨v305, v308, v311, gb313⟩ w34 ⟨hS_, h0_, h1_, h2_, h3_, h4_, h5_, h6_, h7_, h8_, h9_, h10_, h11_, h12_⟩
          have n0_ : Aside0 (Kd.R (Kd.int .i64) 3 w34 w.heap.size (fun k_ => (w.heap.size ≤ k_) ∧ some k_ ≠ (v311 : Value).ownBlock) v308 y307) := ⟨h0_⟩
          have n1_ : Aside0 (Kd.R (Kd.int .i64) 3 w34 w.heap.size (fun k_ => (w.heap.size ≤ k_) ∧ some k_ ≠ (v308 : Value).ownBlock) v311 y310) := ⟨h1_⟩
          have n2_ : Aside0 (Kd.V (Kd.int .i64) 3 w34 w.heap.size (fun k_ => (P0_1_ k_ ∨ w.heap.size ≤ k_) ∧ some k_ ≠ (v308 : Value).ownBlock ∧ some k_ ≠ (v311 : Value).ownBlock ∧ k_ ≠ gb300 ∧ k_ ≠ gb301 ∧ k_ ≠ gb313) (.slice A0_1 l0_1.length c0_1) l0_1) := ⟨h2_⟩
          have n3_ : Aside0 (w34.heap[gb300]? = some (.cells #[.int .i64 a0_0, .slice A0_1 l0_1.length c0_1] 27 (0, 0))) := ⟨h3_⟩
          have n4_ : Aside0 (w34.heap[gb301]? = some (.cells #[.int .i64 a1_0, .int .i64 a1_1] 33 (0, 0))) := ⟨h4_⟩
          have n5_ : Aside0 (w34.heap[gb313]? = some (.cells #[.int .i64 0, .slice none 0 0] 27 (0, 0))) := ⟨h5_⟩
          have n6_ : Aside0 (w.heap.size ≤ gb313) := ⟨h6_⟩
          have n7_ : Aside0 (w.heap.size ≤ gb313) := ⟨h7_⟩
          have n8_ : Aside0 (gb300 ≠ gb313) := ⟨h8_⟩
          have n9_ : Aside0 (gb313 ≠ gb300) := ⟨h9_⟩
          have n10_ : Aside0 (gb301 ≠ gb313) := ⟨h10_⟩
          have n11_ : Aside0 (gb313 ≠ gb301) := ⟨h11_⟩
          have n12_ : Aside0 (Below w.heap.size w w34) := ⟨h12_⟩
          clear HO_301001
          clear BK300
          clear BK301
          clear HB
          clear h0_ h1_ h2_ h3_ h4_ h5_ h6_ h7_ h8_ h9_ h10_ h11_ h12_
          have HO309 := n0_
          have HO312 := n1_
          have HO_301001 := n2_
          have BK300 := n3_
          have BK301 := n4_
          have BK313 := n5_
          have GW313 := n6_
          have GE313 := n7_
          have NB300_313 := n8_
          have NB313_300 := n9_
          have NB301_313 := n10_
          have NB313_301 := n11_
          have HB := n12_
          clear n0_ n1_ n2_ n3_ n4_ n5_ n6_ n7_ n8_ n9_ n10_ n11_ n12_
          have hHeld : w34.cell? ⟨gb300, 0, none⟩ = some (.int .i64 a0_0) ∧ w34.cell? ⟨gb300, 1, none⟩ = some (.slice A0_1 l0_1.length c0_1) := hS_
          obtain ⟨Ao35, co35, eo35⟩ := Kd.R_slice HO312.out
          (first | subst eo35 | (injection eo35 with f1_ f2_ f3_; have f4_ := f1_.symm; have f5_ := f3_.symm; clear f1_ f2_ f3_; subst f4_; subst f5_))
          refine norm_ (a' := ?_) ?_ ?_
          rotate_left
          ·
           simp only [putAll, Act.put, List.setIfInBounds_toArray, List.set_cons_zero, List.set_cons_succ]
           rfl
          refine one_ (i := 9) (N := none) q8_54 rfl rfl (one_of HT_.out (by kernel_rfl)) (by decide) (fun K hK => ?_)
          have hs36 : w34.cell? ⟨gb313, 0, none⟩ = some (.int .i64 0) := (blk_cell BK313.out 0).trans rfl
          have hfs36 := blk_frozen BK313.out 0
          have hns36_0 := NB300_313.out
          have hns36_1 := NB301_313.out
          have hms36_0 := NB313_300.out
          have hms36_1 := NB313_301.out
          have hs37 : w34.cell? ⟨gb313, 1, none⟩ = some (.slice none 0 0) := (blk_cell BK313.out 1).trans rfl
          have hfs37 := blk_frozen BK313.out 1
          have hns37_0 := NB300_313.out
          have hns37_1 := NB301_313.out
          have hms37_0 := NB313_300.out
          have hms37_1 := NB313_301.out
          refine skip_ (w1 := ?_) ?shw ?shN ?_ ?_
          case shw => exact rfl
          case shN => exact rfl
          rotate_left
          ·
           go_simp
           rfl
          refine hK.out _ _ ⟨((cell_far (p := ⟨gb313, _, none⟩) NB300_313.out _).trans (((cell_far (p := ⟨gb313, _, none⟩) NB300_313.out _).trans (hHeld.1)))), ((cell_far (p := ⟨gb313, _, none⟩) NB300_313.out _).trans (((cell_far (p := ⟨gb313, _, none⟩) NB300_313.out _).trans (hHeld.2))))⟩ (fun hHeld => ?_)
          clear hK K
          refine done_ (done_of HT_.out (by kernel_rfl)) ?_
          try go_wp2
          have n0_ : Aside0 (Kd.V (Kd.int .i64) 3 ((w34.setCell ⟨gb313, 0, none⟩ (.int .i64 a0_0)).setCell ⟨gb313, 1, none⟩ (.slice Ao35 y310.length co35)) w.heap.size (fun k_ => (P0_1_ k_ ∨ w.heap.size ≤ k_) ∧ some k_ ≠ (v308 : Value).ownBlock ∧ some k_ ≠ (.slice Ao35 y310.length co35 : Value).ownBlock ∧ k_ ≠ gb300 ∧ k_ ≠ gb301 ∧ k_ ≠ gb313) (.slice A0_1 l0_1.length c0_1) l0_1) := ⟨by (with_reducible repeat (first | apply Kd.V_alloc | apply Kd.V_drewN | apply Kd.V_drew)); exact Kd.V_mono (Kd.V_far (p := ⟨gb313, 1, none⟩) (Kd.V_far (p := ⟨gb313, 0, none⟩) (Kd.V_mono HO_301001.out (fun k_ hk => (⟨hk, hk.2.2.2.2.2⟩ : _ ∧ k_ ≠ gb313))) (fun _ hk => hk.2) (.int .i64 a0_0)) (fun _ hk => hk.2) (.slice Ao35 y310.length co35)) (fun _ hk => ⟨hk.1.1, ⟨hk.1.2.1, ⟨hk.1.2.2.1, ⟨hk.1.2.2.2.1, ⟨hk.1.2.2.2.2.1, hk.1.2.2.2.2.2⟩⟩⟩⟩⟩)⟩
          have n1_ : Aside0 (Kd.R (Kd.int .i64) 3 ((w34.setCell ⟨gb313, 0, none⟩ (.int .i64 a0_0)).setCell ⟨gb313, 1, none⟩ (.slice Ao35 y310.length co35)) w.heap.size (fun k_ => (w.heap.size ≤ k_) ∧ some k_ ≠ (.slice Ao35 y310.length co35 : Value).ownBlock) v308 y307) := ⟨by (with_reducible repeat (first | apply Kd.R_alloc | apply Kd.R_drewN | apply Kd.R_drew)); exact Kd.R_mono (Kd.R_far2 (g := gb313) (Kd.R_types HO309.out BK313.out (by decide)) (fun _ hk => hk.2)) (fun _ hk => ⟨hk.1.1, hk.1.2⟩)⟩
          have n2_ : Aside0 (Kd.R (Kd.int .i64) 3 ((w34.setCell ⟨gb313, 0, none⟩ (.int .i64 a0_0)).setCell ⟨gb313, 1, none⟩ (.slice Ao35 y310.length co35)) w.heap.size (fun k_ => (w.heap.size ≤ k_) ∧ some k_ ≠ (v308 : Value).ownBlock) (.slice Ao35 y310.length co35) y310) := ⟨by (with_reducible repeat (first | apply Kd.R_alloc | apply Kd.R_drewN | apply Kd.R_drew)); exact Kd.R_mono (Kd.R_far2 (g := gb313) (Kd.R_types HO312.out BK313.out (by decide)) (fun _ hk => hk.2)) (fun _ hk => ⟨hk.1.1, hk.1.2⟩)⟩
          have n3_ : Aside0 (((w34.setCell ⟨gb313, 0, none⟩ (.int .i64 a0_0)).setCell ⟨gb313, 1, none⟩ (.slice Ao35 y310.length co35)).heap[gb300]? = some (.cells #[.int .i64 a0_0, .slice A0_1 l0_1.length c0_1] 27 (0, 0))) := ⟨by (with_reducible repeat (first | refine blk_drewN ?_ _ | refine blk_drew ?_ | refine blk_alloc ?_ _)); refine blk_far ?_ NB300_313.out _; (with_reducible repeat (first | refine blk_drewN ?_ _ | refine blk_drew ?_ | refine blk_alloc ?_ _)); refine blk_far ?_ NB300_313.out _; (with_reducible repeat (first | refine blk_drewN ?_ _ | refine blk_drew ?_ | refine blk_alloc ?_ _)); exact BK300.out⟩
          have n4_ : Aside0 (((w34.setCell ⟨gb313, 0, none⟩ (.int .i64 a0_0)).setCell ⟨gb313, 1, none⟩ (.slice Ao35 y310.length co35)).heap[gb301]? = some (.cells #[.int .i64 a1_0, .int .i64 a1_1] 33 (0, 0))) := ⟨by (with_reducible repeat (first | refine blk_drewN ?_ _ | refine blk_drew ?_ | refine blk_alloc ?_ _)); refine blk_far ?_ NB301_313.out _; (with_reducible repeat (first | refine blk_drewN ?_ _ | refine blk_drew ?_ | refine blk_alloc ?_ _)); refine blk_far ?_ NB301_313.out _; (with_reducible repeat (first | refine blk_drewN ?_ _ | refine blk_drew ?_ | refine blk_alloc ?_ _)); exact BK301.out⟩
          have n5_ : Aside0 (((w34.setCell ⟨gb313, 0, none⟩ (.int .i64 a0_0)).setCell ⟨gb313, 1, none⟩ (.slice Ao35 y310.length co35)).heap[gb313]? = some (.cells #[.int .i64 a0_0, .slice Ao35 y310.length co35] 27 (0, 0))) := ⟨by (with_reducible repeat (first | refine blk_drewN ?_ _ | refine blk_drew ?_ | refine blk_alloc ?_ _)); refine blk_put (cs := #[.int .i64 a0_0, .slice none 0 0]) ?_ 1 _ rfl; (with_reducible repeat (first | refine blk_drewN ?_ _ | refine blk_drew ?_ | refine blk_alloc ?_ _)); refine blk_put (cs := #[.int .i64 0, .slice none 0 0]) ?_ 0 _ rfl; (with_reducible repeat (first | refine blk_drewN ?_ _ | refine blk_drew ?_ | refine blk_alloc ?_ _)); exact BK313.out⟩
          have n6_ : Aside0 (Below w.heap.size w ((w34.setCell ⟨gb313, 0, none⟩ (.int .i64 a0_0)).setCell ⟨gb313, 1, none⟩ (.slice Ao35 y310.length co35))) := ⟨gw_ HB⟩
          (try clear HO_301001)
          (try clear HO309)
          (try clear HO312)
          (try clear BK300)
          (try clear BK301)
          (try clear BK313)
          (try clear HB)
          generalize ((w34.setCell ⟨gb313, 0, none⟩ (.int .i64 a0_0)).setCell ⟨gb313, 1, none⟩ (.slice Ao35 y310.length co35)) = w38 at n0_ n1_ n2_ n3_ n4_ n5_ n6_ ⊢
          have HO_301001 := n0_
          have HO309 := n1_
          have HO312 := n2_
          have BK300 := n3_
          have BK301 := n4_
          have BK313 := n5_
          have HB := n6_
          clear n0_ n1_ n2_ n3_ n4_ n5_ n6_
          have n0_ := Aside0.mk (Kd.V_drew HO_301001.out)
          have n1_ := Aside0.mk (Kd.R_drew HO309.out)
          have n2_ := Aside0.mk (Kd.R_drew HO312.out)
          have n3_ := Aside0.mk (blk_drew BK300.out)
          have n4_ := Aside0.mk (blk_drew BK301.out)
          have n5_ := Aside0.mk (blk_drew BK313.out)
          have n6_ := Aside0.mk (below_drew1 HB.out)
          clear HO_301001
          clear HO309
          clear HO312
          clear BK300
          clear BK301
          clear BK313
          clear HB
          have HO_301001 := n0_
          have HO309 := n1_
          have HO312 := n2_
          have BK300 := n3_
          have BK301 := n4_
          have BK313 := n5_
          have HB := n6_
          clear n0_ n1_ n2_ n3_ n4_ n5_ n6_
          refine start_ (n := 37) (S := fun w' => w'.cell? ⟨gb300, 0, none⟩ = some (.int .i64 a0_0) ∧ w'.cell? ⟨gb300, 1, none⟩ = some (.slice A0_1 l0_1.length c0_1) ∧ w'.cell? ⟨gb313, 0, none⟩ = some (.int .i64 a0_0) ∧ w'.cell? ⟨gb313, 1, none⟩ = some (.slice Ao35 y310.length co35) ∧ w'.cell? ⟨gb301, 0, none⟩ = some (.int .i64 a1_0) ∧ w'.cell? ⟨gb301, 1, none⟩ = some (.int .i64 a1_1)) (ds := []) q8_0 (by kernel_rfl) rfl rfl ⟨(blk_cell BK300.out 0).trans rfl, (blk_cell BK300.out 1).trans rfl, (blk_cell BK313.out 0).trans rfl, (blk_cell BK313.out 1).trans rfl, (blk_cell BK301.out 0).trans rfl, (blk_cell BK301.out 1).trans rfl⟩ (fun hHeld => ?_); refine with_tabW colloquylaw06_AttrNone.tab5 colloquylaw06_AttrNone.bits5 (fun HT_ HW_ => ?_)
          generalize w38.drew = w39 at HO_301001 HO309 HO312 BK300 BK301 BK313 HB hHeld ⊢
          refine pure_ (i := 0) (N := some 24) (v := ?_) (a' := ?_) q8_1 rfl rfl (any_of HT_.out (by kernel_rfl)) (fun _ _ _ h => h) (Or.inl ⟨by rfl, ?_⟩) ?_ ?_
          rotate_left
          ·
           intro w'
           go_simp
           with_reducible rfl
          rotate_left
          ·
           simp only [Act.put, List.setIfInBounds_toArray, List.set_cons_zero, List.set_cons_succ, i64_w, i32_w]
           rfl
          refine take_ (i := 1) (N := some 25) (v := ?_) (a' := ?_) q8_2 rfl rfl (take_ofW HT_.out HW_.out (by kernel_rfl)) (fun _ _ _ h => h) (Or.inl ⟨by rfl, ?_⟩) hHeld ?_ ?_
          rotate_left
          ·
           rintro w' ⟨s0, s1, s2, s3, s4, s5⟩
           go_simp
           with_reducible rfl
          rotate_left
          ·
           simp only [Act.put, List.setIfInBounds_toArray, List.set_cons_zero, List.set_cons_succ, i64_w, i32_w]
           rfl
          refine one_ (i := 2) (N := some 26) q8_3 rfl rfl (one_of HT_.out (by kernel_rfl)) (by decide) (fun K hK => ?_)
          refine goes_ Try.func15 (by kernel_rfl) rfl #[.agg #[.int .i64 0, .slice none 0 0], .agg #[.int .i64 a0_0, .slice A0_1 l0_1.length c0_1]] (by rfl) rfl rfl (by (try simp only [List.map_toArray, List.map_cons, List.map_nil]); first | done | rfl | (simp only [List.length_drop, List.length_take]; rfl)) ?_
          refine (attr_Within.calls 0 _ _ ([] : List Int) a0_0 _ _ l0_1 true _ ?side1 ?side2 ?side3 ?side4 A16.out).mono ?_
          (case side1 => exact Kd.C_nil _ _)
          (case side2 => exact Nat.le_refl _)
          (case side3 => repeat (first | exact (Kd.V_reads' HO_301001.out).2.2 | (with_reducible refine Kd.C_alloc ?_ _) | (with_reducible refine Kd.C_drewN ?_ _) | (with_reducible refine Kd.C_drew ?_)))
          (case side4 => exact (Kd.V_reads' HO_301001.out).2.1)
          rintro e w40 ⟨rfl, hb⟩
          refine ⟨_, rfl, ?_⟩
          have n0_ := Aside0.mk (Kd.V_below (Kd.vk HO_301001) hb)
          have n1_ := Aside0.mk (Kd.R_below (Kd.rk HO309) hb)
          have n2_ := Aside0.mk (Kd.R_below (Kd.rk HO312) hb)
          have n3_ := Aside0.mk (blk_below (g := gb300) (bk BK300) hb)
          have n4_ := Aside0.mk (blk_below (g := gb301) (bk BK301) hb)
          have n5_ := Aside0.mk (blk_below (g := gb313) (bk BK313) hb)
          have n6_ := Aside0.mk (below_step (gw_ HB) hb)
          clear HO_301001
          clear HO309
          clear HO312
          clear BK300
          clear BK301
          clear BK313
          clear HB
          have HO_301001 := n0_
          have HO309 := n1_
          have HO312 := n2_
          have BK300 := n3_
          have BK301 := n4_
          have BK313 := n5_
          have HB := n6_
          clear n0_ n1_ n2_ n3_ n4_ n5_ n6_
          (try clear hb)
          (try clear hb2)
          (try clear hk)
          (try clear hi)
          refine hK.out _ _ ⟨(blk_cell BK300.out 0).trans rfl, (blk_cell BK300.out 1).trans rfl, (blk_cell BK313.out 0).trans rfl, (blk_cell BK313.out 1).trans rfl, (blk_cell BK301.out 0).trans rfl, (blk_cell BK301.out 1).trans rfl⟩ (fun hHeld => ?_)
          clear hK K
          refine norm_ (a' := ?_) ?_ ?_
          rotate_left
          ·
           show Act.put _ (some 26) _ = _
           simp only [Act.put, List.setIfInBounds_toArray, List.set_cons_zero, List.set_cons_succ, i64_w, i32_w]
           rfl
          refine pure_ (i := 3) (N := some 27) (v := ?_) (a' := ?_) q8_4 rfl rfl (any_of HT_.out (by kernel_rfl)) (fun _ _ _ h => h) (Or.inl ⟨by rfl, ?_⟩) ?_ ?_
          rotate_left
          ·
           intro w'
           go_simp
           with_reducible rfl
          rotate_left
          ·
           simp only [Act.put, List.setIfInBounds_toArray, List.set_cons_zero, List.set_cons_succ, i64_w, i32_w]
           rfl
          refine take_ (i := 4) (N := some 28) (v := ?_) (a' := ?_) q8_5 rfl rfl (take_ofW HT_.out HW_.out (by kernel_rfl)) (fun _ _ _ h => h) (Or.inl ⟨by rfl, ?_⟩) hHeld ?_ ?_
          rotate_left
          ·
           rintro w' ⟨s0, s1, s2, s3, s4, s5⟩
           go_simp
           with_reducible rfl
          rotate_left
          ·
           simp only [Act.put, List.setIfInBounds_toArray, List.set_cons_zero, List.set_cons_succ, i64_w, i32_w]
           rfl
          refine take_ (i := 5) (N := some 29) (v := ?_) (a' := ?_) q8_6 rfl rfl (take_ofW HT_.out HW_.out (by kernel_rfl)) (fun _ _ _ h => h) (Or.inl ⟨by rfl, ?_⟩) hHeld ?_ ?_
          rotate_left
          ·
           rintro w' ⟨s0, s1, s2, s3, s4, s5⟩
           go_simp
           with_reducible rfl
          rotate_left
          ·
           simp only [Act.put, List.setIfInBounds_toArray, List.set_cons_zero, List.set_cons_succ, i64_w, i32_w]
           rfl
          refine one_ (i := 6) (N := some 30) q8_7 rfl rfl (one_of HT_.out (by kernel_rfl)) (by decide) (fun K hK => ?_)
          refine goes_ Try.func16 (by kernel_rfl) rfl #[.agg #[.int .i64 a0_0, .slice A0_1 l0_1.length c0_1], .agg #[.int .i64 a0_0, .slice Ao35 y310.length co35]] (by rfl) rfl rfl (by (try simp only [List.map_toArray, List.map_cons, List.map_nil]); first | done | rfl | (simp only [List.length_drop, List.length_take]; rfl)) ?_
          with_reducible refine (attr_Same.calls a0_0 _ _ l0_1 a0_0 _ _ y310 true _ ?side1 ?side2 ?side3 ?side4 A18.out).mono ?_
          (case side1 => repeat (first | exact (Kd.V_reads' HO_301001.out).2.2 | (with_reducible refine Kd.C_alloc ?_ _) | (with_reducible refine Kd.C_drewN ?_ _) | (with_reducible refine Kd.C_drew ?_)))
          (case side2 => exact (Kd.V_reads' HO_301001.out).2.1)
          (case side3 => repeat (first | exact (Kd.R_reads' HO312.out).2.2 | (with_reducible refine Kd.C_alloc ?_ _) | (with_reducible refine Kd.C_drewN ?_ _) | (with_reducible refine Kd.C_drew ?_)))
          (case side4 => exact (Kd.R_reads' HO312.out).2.1)
          rintro e w41 ⟨rfl, hb⟩
          refine ⟨_, rfl, ?_⟩
          have n0_ := Aside0.mk (Kd.V_below (Kd.vk HO_301001) hb)
          have n1_ := Aside0.mk (Kd.R_below (Kd.rk HO309) hb)
          have n2_ := Aside0.mk (Kd.R_below (Kd.rk HO312) hb)
          have n3_ := Aside0.mk (blk_below (g := gb300) (bk BK300) hb)
          have n4_ := Aside0.mk (blk_below (g := gb301) (bk BK301) hb)
          have n5_ := Aside0.mk (blk_below (g := gb313) (bk BK313) hb)
          have n6_ := Aside0.mk (below_step (gw_ HB) hb)
          clear HO_301001
          clear HO309
          clear HO312
          clear BK300
          clear BK301
          clear BK313
          clear HB
          have HO_301001 := n0_
          have HO309 := n1_
          have HO312 := n2_
          have BK300 := n3_
          have BK301 := n4_
          have BK313 := n5_
          have HB := n6_
          clear n0_ n1_ n2_ n3_ n4_ n5_ n6_
          (try clear hb)
          (try clear hb2)
          (try clear hk)
          (try clear hi)
          refine hK.out _ _ ⟨(blk_cell BK300.out 0).trans rfl, (blk_cell BK300.out 1).trans rfl, (blk_cell BK313.out 0).trans rfl, (blk_cell BK313.out 1).trans rfl, (blk_cell BK301.out 0).trans rfl, (blk_cell BK301.out 1).trans rfl⟩ (fun hHeld => ?_)
          clear hK K
          refine norm_ (a' := ?_) ?_ ?_
          rotate_left
          ·
           show Act.put _ (some 30) _ = _
           simp only [Act.put, List.setIfInBounds_toArray, List.set_cons_zero, List.set_cons_succ, i64_w, i32_w]
           rfl
          refine pure_ (i := 7) (N := some 31) (v := ?_) (a' := ?_) q8_8 rfl rfl (any_of HT_.out (by kernel_rfl)) (fun _ _ _ h => h) (Or.inl ⟨by rfl, ?_⟩) ?_ ?_
          rotate_left
          ·
           intro w'
           go_simp
           with_reducible rfl
          rotate_left
          ·
           simp only [Act.put, List.setIfInBounds_toArray, List.set_cons_zero, List.set_cons_succ, i64_w, i32_w]
           rfl
          refine pure_ (i := 8) (N := some 32) (v := ?_) (a' := ?_) q8_9 rfl rfl (any_of HT_.out (by kernel_rfl)) (fun _ _ _ h => h) (Or.inl ⟨by rfl, ?_⟩) ?_ ?_
          rotate_left
          ·
           intro w'
           go_simp
           with_reducible rfl
          rotate_left
          ·
           simp only [Act.put, List.setIfInBounds_toArray, List.set_cons_zero, List.set_cons_succ, i64_w, i32_w]
           rfl
          refine pure_ (i := 10) (N := some 34) (v := ?_) (a' := ?_) q8_10 rfl rfl (any_of HT_.out (by kernel_rfl)) (fun _ _ _ h => h) (Or.inl ⟨by rfl, ?_⟩) ?_ ?_
          rotate_left
          ·
           intro w'
           go_simp
           with_reducible rfl
          rotate_left
          ·
           simp only [Act.put, List.setIfInBounds_toArray, List.set_cons_zero, List.set_cons_succ, i64_w, i32_w]
           rfl
          refine take_ (i := 9) (N := some 33) (v := ?_) (a' := ?_) q8_11 rfl rfl (take_ofW HT_.out HW_.out (by kernel_rfl)) (fun _ _ _ h => h) (Or.inl ⟨by rfl, ?_⟩) hHeld ?_ ?_
          rotate_left
          ·
           rintro w' ⟨s0, s1, s2, s3, s4, s5⟩
           go_simp
           with_reducible rfl
          rotate_left
          ·
           simp only [Act.put, List.setIfInBounds_toArray, List.set_cons_zero, List.set_cons_succ, i64_w, i32_w]
           rfl
          refine take_ (i := 13) (N := some 37) (v := ?_) (a' := ?_) q8_12 rfl rfl (take_ofW HT_.out HW_.out (by kernel_rfl)) (fun _ _ _ h => h) (Or.inl ⟨by rfl, ?_⟩) hHeld ?_ ?_
          rotate_left
          ·
           rintro w' ⟨s0, s1, s2, s3, s4, s5⟩
           go_simp
           with_reducible rfl
          rotate_left
          ·
           simp only [Act.put, List.setIfInBounds_toArray, List.set_cons_zero, List.set_cons_succ, i64_w, i32_w]
           rfl
          refine one_ (i := 11) (N := some 35) q8_13 rfl rfl (one_of HT_.out (by kernel_rfl)) (by decide) (fun K hK => ?_)
          refine Kd.N_lit_step k27 _ 27 ?hg (N' := 35) ?hd (xs := ([(⟨a0_0, l0_1⟩ : S27), (⟨0, ([] : List Int)⟩ : S27)] : List (S27))) (inner := [.int .i64 a0_0, .slice A0_1 l0_1.length c0_1, .int .i64 0, .slice none 0 0]) (ok := (fun k_ => (P0_1_ k_ ∨ w.heap.size ≤ k_) ∧ some k_ ≠ (v308 : Value).ownBlock ∧ some k_ ≠ (.slice Ao35 y310.length co35 : Value).ownBlock ∧ k_ ≠ gb300 ∧ k_ ≠ gb301 ∧ k_ ≠ gb313)) (okp := (fun k_ => (P0_1_ k_ ∨ w.heap.size ≤ k_) ∧ some k_ ≠ (v308 : Value).ownBlock ∧ some k_ ≠ (.slice Ao35 y310.length co35 : Value).ownBlock ∧ k_ ≠ gb300 ∧ k_ ≠ gb301 ∧ k_ ≠ gb313)) ?hr ?hp (fun _ hk => hk) ((show ∀ k_, w41.heap.size ≤ k_ → (fun k_ => (P0_1_ k_ ∨ w.heap.size ≤ k_) ∧ some k_ ≠ (v308 : Value).ownBlock ∧ some k_ ≠ (.slice Ao35 y310.length co35 : Value).ownBlock ∧ k_ ≠ gb300 ∧ k_ ≠ gb301 ∧ k_ ≠ gb313) k_ from fun k_ hk => ⟨(.inr (Nat.le_trans (below_size (gw_ HB)) hk)), Kd.fresh' (Kd.R_lt (Kd.rk HO309)) k_ hk, Kd.fresh' (Kd.R_lt (Kd.rk HO312)) k_ hk, Kd.freshB (g := gb300) (bk BK300) k_ hk, Kd.freshB (g := gb301) (bk BK301) k_ hk, Kd.freshB (g := gb313) (bk BK313) k_ hk⟩) _ (Nat.le_refl _)) (Below.refl _ _) (Nat.le_refl _) (by simp) ?_; (case hd => rfl); (case hg => rfl); (case hr => first | (go_simp; done) | (go_simp; rfl)); (case hp => exact (Reps.c2 (show Kd.FK k27 _ _ (⟨a0_0, l0_1⟩ : S27) [.int .i64 a0_0, .slice A0_1 l0_1.length c0_1] from (k27_mkF _ _ (⟨a0_0, l0_1⟩ : S27) (Kd.V_reads' (Kd.V_mono (ok' := (fun k_ => (P0_1_ k_ ∨ w.heap.size ≤ k_) ∧ some k_ ≠ (v308 : Value).ownBlock ∧ some k_ ≠ (.slice Ao35 y310.length co35 : Value).ownBlock ∧ k_ ≠ gb300 ∧ k_ ≠ gb301 ∧ k_ ≠ gb313)) (HO_301001.out) (fun k_ hk => ⟨hk.1, ⟨hk.2.1, ⟨hk.2.2.1, ⟨hk.2.2.2.1, ⟨hk.2.2.2.2.1, hk.2.2.2.2.2⟩⟩⟩⟩⟩))).2.1 (Kd.V_F (Kd.V_mono (ok' := (fun k_ => (P0_1_ k_ ∨ w.heap.size ≤ k_) ∧ some k_ ≠ (v308 : Value).ownBlock ∧ some k_ ≠ (.slice Ao35 y310.length co35 : Value).ownBlock ∧ k_ ≠ gb300 ∧ k_ ≠ gb301 ∧ k_ ≠ gb313)) (HO_301001.out) (fun k_ hk => ⟨hk.1, ⟨hk.2.1, ⟨hk.2.2.1, ⟨hk.2.2.2.1, ⟨hk.2.2.2.2.1, hk.2.2.2.2.2⟩⟩⟩⟩⟩))))) (Reps.c2 (show Kd.FK k27 _ _ (⟨0, ([] : List Int)⟩ : S27) [.int .i64 0, .slice none 0 0] from (k27_mkF _ _ (⟨0, ([] : List Int)⟩ : S27) (Nat.le_refl _) (Kd.F_nil _ _ _))) (Reps.none _ _))))
          intro v317 w42 ho43 hb hg_ hnew_
          clear hg_ hnew_
          (first | rw [← Ny316.out] at ho43 | (simp only [Int.reduceToNat] at ho43; rw [← Ny316.out] at ho43))
          have n0_ := Aside0.mk (Kd.V_elder' (Kd.vk HO_301001) (Kd.N_base ho43) hb)
          have n1_ := Aside0.mk (Kd.R_below (Kd.rk HO309) hb)
          have n2_ := Aside0.mk (Kd.R_below (Kd.rk HO312) hb)
          have n3_ := Aside0.mk (Kd.N_lower ho43 (below_size (gw_ HB)))
          have n4_ := Aside0.mk (blk_below (g := gb300) (bk BK300) hb)
          have n5_ := Aside0.mk (blk_below (g := gb301) (bk BK301) hb)
          have n6_ := Aside0.mk (blk_below (g := gb313) (bk BK313) hb)
          have n7_ := Aside0.mk (below_step (gw_ HB) hb)
          clear HO_301001
          clear HO309
          clear HO312
          clear BK300
          clear BK301
          clear BK313
          clear HB
          have HO_301001 := n0_
          have HO309 := n1_
          have HO312 := n2_
          have HO318 := n3_
          have BK300 := n4_
          have BK301 := n5_
          have BK313 := n6_
          have HB := n7_
          clear n0_ n1_ n2_ n3_ n4_ n5_ n6_ n7_
          clear hb ho43
          obtain ⟨Ao44, co44, eo44⟩ := Kd.N_slice HO318.out
          (first | subst eo44 | (injection eo44 with f1_ f2_ f3_; have f4_ := f1_.symm; have f5_ := f3_.symm; clear f1_ f2_ f3_; subst f4_; subst f5_))
          refine hK.out _ _ ⟨(blk_cell BK300.out 0).trans rfl, (blk_cell BK300.out 1).trans rfl, (blk_cell BK313.out 0).trans rfl, (blk_cell BK313.out 1).trans rfl, (blk_cell BK301.out 0).trans rfl, (blk_cell BK301.out 1).trans rfl⟩ (fun hHeld => ?_)
          clear hK K
          refine norm_ (a' := ?_) ?_ ?_
          rotate_left
          ·
           show Act.put _ (some 35) _ = _
           simp only [Act.put, List.setIfInBounds_toArray, List.set_cons_zero, List.set_cons_succ, i64_w, i32_w]
           rfl
          refine one_ (i := 12) (N := some 36) q8_14 rfl rfl (one_of HT_.out (by kernel_rfl)) (by decide) (fun K hK => ?_)
          refine goes_ Try.func11 (by kernel_rfl) rfl #[.slice Ao44 y316.length co44] (by rfl) rfl rfl (by (try simp only [List.map_toArray, List.map_cons, List.map_nil]); first | done | rfl | (simp only [List.length_drop, List.length_take]; rfl)) ?_
          with_reducible refine (attr_Merge.calls kj3 _ _ y316 t319 t320 _ ?side1 ?side2 A20.out).mono ?_
          (case side1 => repeat (first | exact (Kd.N_reads' HO318.out).2.2 | (with_reducible refine Kd.C_alloc ?_ _) | (with_reducible refine Kd.C_drewN ?_ _) | (with_reducible refine Kd.C_drew ?_)))
          (case side2 => exact (Kd.N_reads' HO318.out).2.1)
          rintro e w45 ⟨v321, rfl, ho0, hb⟩
          refine ⟨_, rfl, ?_⟩
          have n0_ := Aside0.mk (Kd.V_elder' (Kd.vk HO_301001) (Kd.R_base ho0) hb)
          have n1_ := Aside0.mk (Kd.R_elder' (Kd.rk HO309) (Kd.R_base ho0) hb)
          have n2_ := Aside0.mk (Kd.R_elder' (Kd.rk HO312) (Kd.R_base ho0) hb)
          have n3_ := Aside0.mk (Kd.N_elder' (Kd.nk HO318) (Kd.R_base ho0) hb)
          have n4_ := Aside0.mk (Kd.R_lower (Kd.R_new' (Kd.R_new' (Kd.R_newM (M := fun k_ => (w.heap.size ≤ k_)) ho0 (below_size (gw_ HB)) (fun k_ h_ => h_)) (Kd.R_lt (Kd.rk HO309))) (Kd.R_lt (Kd.rk HO312))) (below_size (gw_ HB)))
          have n5_ := Aside0.mk (blk_below (g := gb300) (bk BK300) hb)
          have n6_ := Aside0.mk (blk_below (g := gb301) (bk BK301) hb)
          have n7_ := Aside0.mk (blk_below (g := gb313) (bk BK313) hb)
          have n8_ := Aside0.mk (below_step (gw_ HB) hb)
          clear HO_301001
          clear HO309
          clear HO312
          clear HO318
          clear BK300
          clear BK301
          clear BK313
          clear HB
          have HO_301001 := n0_
          have HO309 := n1_
          have HO312 := n2_
          have HO318 := n3_
          have HO322 := n4_
          have BK300 := n5_
          have BK301 := n6_
          have BK313 := n7_
          have HB := n8_
          clear n0_ n1_ n2_ n3_ n4_ n5_ n6_ n7_ n8_
          (try clear hb)
          (try clear hb2)
          (try clear hk)
          (try clear hi)
          (try clear ho0)
          obtain ⟨Ao46, co46, eo46⟩ := Kd.R_slice HO322.out
          (first | subst eo46 | (injection eo46 with f1_ f2_ f3_; have f4_ := f1_.symm; have f5_ := f3_.symm; clear f1_ f2_ f3_; subst f4_; subst f5_))
          refine hK.out _ _ ⟨(blk_cell BK300.out 0).trans rfl, (blk_cell BK300.out 1).trans rfl, (blk_cell BK313.out 0).trans rfl, (blk_cell BK313.out 1).trans rfl, (blk_cell BK301.out 0).trans rfl, (blk_cell BK301.out 1).trans rfl⟩ (fun hHeld => ?_)
          clear hK K
          refine norm_ (a' := ?_) ?_ ?_
          rotate_left
          ·
           show Act.put _ (some 36) _ = _
           simp only [Act.put, List.setIfInBounds_toArray, List.set_cons_zero, List.set_cons_succ, i64_w, i32_w]
           rfl
          refine one_ (i := 14) (N := some 38) q8_15 rfl rfl (one_of HT_.out (by kernel_rfl)) (by decide) (fun K hK => ?_)
          refine goes_ Try.func16 (by kernel_rfl) rfl #[.agg #[.int .i64 t319, .slice Ao46 t320.length co46], .agg #[.int .i64 a0_0, .slice A0_1 l0_1.length c0_1]] (by rfl) rfl rfl (by (try simp only [List.map_toArray, List.map_cons, List.map_nil]); first | done | rfl | (simp only [List.length_drop, List.length_take]; rfl)) ?_
          with_reducible refine (attr_Same.calls t319 _ _ t320 a0_0 _ _ l0_1 true _ ?side1 ?side2 ?side3 ?side4 A21.out).mono ?_
          (case side1 => repeat (first | exact (Kd.R_reads' HO322.out).2.2 | (with_reducible refine Kd.C_alloc ?_ _) | (with_reducible refine Kd.C_drewN ?_ _) | (with_reducible refine Kd.C_drew ?_)))
          (case side2 => exact (Kd.R_reads' HO322.out).2.1)
          (case side3 => repeat (first | exact (Kd.V_reads' HO_301001.out).2.2 | (with_reducible refine Kd.C_alloc ?_ _) | (with_reducible refine Kd.C_drewN ?_ _) | (with_reducible refine Kd.C_drew ?_)))
          (case side4 => exact (Kd.V_reads' HO_301001.out).2.1)
          rintro e w47 ⟨rfl, hb⟩
          refine ⟨_, rfl, ?_⟩
          have n0_ := Aside0.mk (Kd.V_below (Kd.vk HO_301001) hb)
          have n1_ := Aside0.mk (Kd.R_below (Kd.rk HO309) hb)
          have n2_ := Aside0.mk (Kd.R_below (Kd.rk HO312) hb)
          have n3_ := Aside0.mk (Kd.N_below (Kd.nk HO318) hb)
          have n4_ := Aside0.mk (Kd.R_below (Kd.rk HO322) hb)
          have n5_ := Aside0.mk (blk_below (g := gb300) (bk BK300) hb)
          have n6_ := Aside0.mk (blk_below (g := gb301) (bk BK301) hb)
          have n7_ := Aside0.mk (blk_below (g := gb313) (bk BK313) hb)
          have n8_ := Aside0.mk (below_step (gw_ HB) hb)
          clear HO_301001
          clear HO309
          clear HO312
          clear HO318
          clear HO322
          clear BK300
          clear BK301
          clear BK313
          clear HB
          have HO_301001 := n0_
          have HO309 := n1_
          have HO312 := n2_
          have HO318 := n3_
          have HO322 := n4_
          have BK300 := n5_
          have BK301 := n6_
          have BK313 := n7_
          have HB := n8_
          clear n0_ n1_ n2_ n3_ n4_ n5_ n6_ n7_ n8_
          (try clear hb)
          (try clear hb2)
          (try clear hk)
          (try clear hi)
          refine hK.out _ _ ⟨(blk_cell BK300.out 0).trans rfl, (blk_cell BK300.out 1).trans rfl, (blk_cell BK313.out 0).trans rfl, (blk_cell BK313.out 1).trans rfl, (blk_cell BK301.out 0).trans rfl, (blk_cell BK301.out 1).trans rfl⟩ (fun hHeld => ?_)
          clear hK K
          refine norm_ (a' := ?_) ?_ ?_
          rotate_left
          ·
           show Act.put _ (some 38) _ = _
           simp only [Act.put, List.setIfInBounds_toArray, List.set_cons_zero, List.set_cons_succ, i64_w, i32_w]
           rfl
          refine pure_ (i := 15) (N := some 39) (v := ?_) (a' := ?_) q8_16 rfl rfl (any_of HT_.out (by kernel_rfl)) (fun _ _ _ h => h) (Or.inl ⟨by rfl, ?_⟩) ?_ ?_
          rotate_left
          ·
           intro w'
           go_simp
           with_reducible rfl
          rotate_left
          ·
           simp only [Act.put, List.setIfInBounds_toArray, List.set_cons_zero, List.set_cons_succ, i64_w, i32_w]
           rfl
          refine pure_ (i := 16) (N := some 40) (v := ?_) (a' := ?_) q8_17 rfl rfl (any_of HT_.out (by kernel_rfl)) (fun _ _ _ h => h) (Or.inl ⟨by rfl, ?_⟩) ?_ ?_
          rotate_left
          ·
           intro w'
           go_simp
           with_reducible rfl
          rotate_left
          ·
           simp only [Act.put, List.setIfInBounds_toArray, List.set_cons_zero, List.set_cons_succ, i64_w, i32_w]
           rfl
          refine pure_ (i := 17) (N := some 41) (v := ?_) (a' := ?_) q8_18 rfl rfl (any_of HT_.out (by kernel_rfl)) (fun _ _ _ h => h) (Or.inl ⟨by rfl, ?_⟩) ?_ ?_
          rotate_left
          ·
           intro w'
           go_simp
           with_reducible rfl
          rotate_left
          ·
           simp only [Act.put, List.setIfInBounds_toArray, List.set_cons_zero, List.set_cons_succ, i64_w, i32_w]
           rfl
          refine take_ (i := 18) (N := some 42) (v := ?_) (a' := ?_) q8_19 rfl rfl (take_ofW HT_.out HW_.out (by kernel_rfl)) (fun _ _ _ h => h) (Or.inl ⟨by rfl, ?_⟩) hHeld ?_ ?_
          rotate_left
          ·
           rintro w' ⟨s0, s1, s2, s3, s4, s5⟩
           go_simp
           with_reducible rfl
          rotate_left
          ·
           simp only [Act.put, List.setIfInBounds_toArray, List.set_cons_zero, List.set_cons_succ, i64_w, i32_w]
           rfl
          refine pure_ (i := 19) (N := some 43) (v := ?_) (a' := ?_) q8_20 rfl rfl (any_of HT_.out (by kernel_rfl)) (fun _ _ _ h => h) (Or.inl ⟨by rfl, ?_⟩) ?_ ?_
          rotate_left
          ·
           intro w'
           go_simp
           with_reducible rfl
          rotate_left
          ·
           simp only [Act.put, List.setIfInBounds_toArray, List.set_cons_zero, List.set_cons_succ, i64_w, i32_w]
           rfl
          refine pure_ (i := 20) (N := some 44) (v := ?_) (a' := ?_) q8_21 rfl rfl (any_of HT_.out (by kernel_rfl)) (fun _ _ _ h => h) (Or.inl ⟨by rfl, ?_⟩) ?_ ?_
          rotate_left
          ·
           intro w'
           go_simp
           with_reducible rfl
          rotate_left
          ·
           simp only [Act.put, List.setIfInBounds_toArray, List.set_cons_zero, List.set_cons_succ, i64_w, i32_w]
           rfl
          refine pure_ (i := 21) (N := some 45) (v := undef) (a' := ?_) q8_22 rfl rfl (any_of HT_.out (by kernel_rfl)) (fun _ _ _ h => h) (Or.inr ⟨by rfl, rfl⟩) ?_ ?_
          rotate_left
          ·
           simp only [Act.put, List.setIfInBounds_toArray, List.set_cons_zero, List.set_cons_succ, i64_w, i32_w]
           rfl
          refine pure_ (i := 22) (N := some 46) (v := undef) (a' := ?_) q8_23 rfl rfl (any_of HT_.out (by kernel_rfl)) (fun _ _ _ h => h) (Or.inr ⟨by rfl, rfl⟩) ?_ ?_
          rotate_left
          ·
           simp only [Act.put, List.setIfInBounds_toArray, List.set_cons_zero, List.set_cons_succ, i64_w, i32_w]
           rfl
          refine pure_ (i := 23) (N := some 47) (v := undef) (a' := ?_) q8_24 rfl rfl (any_of HT_.out (by kernel_rfl)) (fun _ _ _ h => h) (Or.inr ⟨by rfl, rfl⟩) ?_ ?_
          rotate_left
          ·
           simp only [Act.put, List.setIfInBounds_toArray, List.set_cons_zero, List.set_cons_succ, i64_w, i32_w]
           rfl
          refine pure_ (i := 24) (N := some 48) (v := undef) (a' := ?_) q8_25 rfl rfl (any_of HT_.out (by kernel_rfl)) (fun _ _ _ h => h) (Or.inr ⟨by rfl, rfl⟩) ?_ ?_
          rotate_left
          ·
           simp only [Act.put, List.setIfInBounds_toArray, List.set_cons_zero, List.set_cons_succ, i64_w, i32_w]
           rfl
          refine pure_ (i := 25) (N := some 49) (v := ?_) (a' := ?_) q8_26 rfl rfl (any_of HT_.out (by kernel_rfl)) (fun _ _ _ h => h) (Or.inl ⟨by rfl, ?_⟩) ?_ ?_
          rotate_left
          ·
           intro w'
           go_simp
           with_reducible rfl
          rotate_left
          ·
           simp only [Act.put, List.setIfInBounds_toArray, List.set_cons_zero, List.set_cons_succ, i64_w, i32_w]
           rfl
          refine pure_ (i := 26) (N := some 50) (v := ?_) (a' := ?_) q8_27 rfl rfl (any_of HT_.out (by kernel_rfl)) (fun _ _ _ h => h) (Or.inl ⟨by rfl, ?_⟩) ?_ ?_
          rotate_left
          ·
           intro w'
           go_simp
           with_reducible rfl
          rotate_left
          ·
           simp only [Act.put, List.setIfInBounds_toArray, List.set_cons_zero, List.set_cons_succ, i64_w, i32_w]
           rfl
          refine pure_ (i := 27) (N := some 51) (v := ?_) (a' := ?_) q8_28 rfl rfl (any_of HT_.out (by kernel_rfl)) (fun _ _ _ h => h) (Or.inl ⟨by rfl, ?_⟩) ?_ ?_
          rotate_left
          ·
           intro w'
           go_simp
           with_reducible rfl
          rotate_left
          ·
           simp only [Act.put, List.setIfInBounds_toArray, List.set_cons_zero, List.set_cons_succ, i64_w, i32_w]
           rfl
          refine take_ (i := 28) (N := some 52) (v := ?_) (a' := ?_) q8_29 rfl rfl (take_ofW HT_.out HW_.out (by kernel_rfl)) (fun _ _ _ h => h) (Or.inl ⟨by rfl, ?_⟩) hHeld ?_ ?_
          rotate_left
          ·
           rintro w' ⟨s0, s1, s2, s3, s4, s5⟩
           go_simp
           with_reducible rfl
          rotate_left
          ·
           simp only [Act.put, List.setIfInBounds_toArray, List.set_cons_zero, List.set_cons_succ, i64_w, i32_w]
           rfl
          refine take_ (i := 29) (N := some 53) (v := ?_) (a' := ?_) q8_30 rfl rfl (take_ofW HT_.out HW_.out (by kernel_rfl)) (fun _ _ _ h => h) (Or.inl ⟨by rfl, ?_⟩) hHeld ?_ ?_
          rotate_left
          ·
           rintro w' ⟨s0, s1, s2, s3, s4, s5⟩
           go_simp
           with_reducible rfl
          rotate_left
          ·
           simp only [Act.put, List.setIfInBounds_toArray, List.set_cons_zero, List.set_cons_succ, i64_w, i32_w]
           rfl
          refine take_ (i := 31) (N := some 55) (v := ?_) (a' := ?_) q8_31 rfl rfl (take_ofW HT_.out HW_.out (by kernel_rfl)) (fun _ _ _ h => h) (Or.inl ⟨by rfl, ?_⟩) hHeld ?_ ?_
          rotate_left
          ·
           rintro w' ⟨s0, s1, s2, s3, s4, s5⟩
           go_simp
           with_reducible rfl
          rotate_left
          ·
           simp only [Act.put, List.setIfInBounds_toArray, List.set_cons_zero, List.set_cons_succ, i64_w, i32_w]
           rfl
          refine take_ (i := 32) (N := some 56) (v := ?_) (a' := ?_) q8_32 rfl rfl (take_ofW HT_.out HW_.out (by kernel_rfl)) (fun _ _ _ h => h) (Or.inl ⟨by rfl, ?_⟩) hHeld ?_ ?_
          rotate_left
          ·
           rintro w' ⟨s0, s1, s2, s3, s4, s5⟩
           go_simp
           with_reducible rfl
          rotate_left
          ·
           simp only [Act.put, List.setIfInBounds_toArray, List.set_cons_zero, List.set_cons_succ, i64_w, i32_w]
           rfl
          refine one_ (i := 30) (N := some 54) q8_33 rfl rfl (one_of HT_.out (by kernel_rfl)) (by decide) (fun K hK => ?_)
          refine goes_ Try.func14 (by kernel_rfl) rfl #[.agg #[.int .i64 a0_0, .slice A0_1 l0_1.length c0_1], .agg #[.int .i64 a1_0, .int .i64 a1_1]] (by rfl) rfl rfl (by (try simp only [List.map_toArray, List.map_cons, List.map_nil]); first | done | rfl | (simp only [List.length_drop, List.length_take]; rfl)) ?_
          with_reducible refine (attr_Waits.calls a0_0 _ _ l0_1 a1_0 a1_1 t324 _ ?side1 ?side2 A24.out).mono ?_
          (case side1 => repeat (first | exact (Kd.V_reads' HO_301001.out).2.2 | (with_reducible refine Kd.C_alloc ?_ _) | (with_reducible refine Kd.C_drewN ?_ _) | (with_reducible refine Kd.C_drew ?_)))
          (case side2 => exact (Kd.V_reads' HO_301001.out).2.1)
          rintro e w48 ⟨rfl, hb⟩
          refine ⟨_, rfl, ?_⟩
          have n0_ := Aside0.mk (Kd.V_below (Kd.vk HO_301001) hb)
          have n1_ := Aside0.mk (Kd.R_below (Kd.rk HO309) hb)
          have n2_ := Aside0.mk (Kd.R_below (Kd.rk HO312) hb)
          have n3_ := Aside0.mk (Kd.N_below (Kd.nk HO318) hb)
          have n4_ := Aside0.mk (Kd.R_below (Kd.rk HO322) hb)
          have n5_ := Aside0.mk (blk_below (g := gb300) (bk BK300) hb)
          have n6_ := Aside0.mk (blk_below (g := gb301) (bk BK301) hb)
          have n7_ := Aside0.mk (blk_below (g := gb313) (bk BK313) hb)
          have n8_ := Aside0.mk (below_step (gw_ HB) hb)
          clear HO_301001
          clear HO309
          clear HO312
          clear HO318
          clear HO322
          clear BK300
          clear BK301
          clear BK313
          clear HB
          have HO_301001 := n0_
          have HO309 := n1_
          have HO312 := n2_
          have HO318 := n3_
          have HO322 := n4_
          have BK300 := n5_
          have BK301 := n6_
          have BK313 := n7_
          have HB := n8_
          clear n0_ n1_ n2_ n3_ n4_ n5_ n6_ n7_ n8_
          (try clear hb)
          (try clear hb2)
          (try clear hk)
          (try clear hi)
          refine hK.out _ _ ⟨(blk_cell BK300.out 0).trans rfl, (blk_cell BK300.out 1).trans rfl, (blk_cell BK313.out 0).trans rfl, (blk_cell BK313.out 1).trans rfl, (blk_cell BK301.out 0).trans rfl, (blk_cell BK301.out 1).trans rfl⟩ (fun hHeld => ?_)
          clear hK K
          refine norm_ (a' := ?_) ?_ ?_
          rotate_left
          ·
           show Act.put _ (some 54) _ = _
           simp only [Act.put, List.setIfInBounds_toArray, List.set_cons_zero, List.set_cons_succ, i64_w, i32_w]
           rfl
          refine one_ (i := 33) (N := some 57) q8_34 rfl rfl (one_of HT_.out (by kernel_rfl)) (by decide) (fun K hK => ?_)
          refine goes_ Try.func14 (by kernel_rfl) rfl #[.agg #[.int .i64 a0_0, .slice Ao35 y310.length co35], .agg #[.int .i64 a1_0, .int .i64 a1_1]] (by rfl) rfl rfl (by (try simp only [List.map_toArray, List.map_cons, List.map_nil]); first | done | rfl | (simp only [List.length_drop, List.length_take]; rfl)) ?_
          with_reducible refine (attr_Waits.calls a0_0 _ _ y310 a1_0 a1_1 t325 _ ?side1 ?side2 A25.out).mono ?_
          (case side1 => repeat (first | exact (Kd.R_reads' HO312.out).2.2 | (with_reducible refine Kd.C_alloc ?_ _) | (with_reducible refine Kd.C_drewN ?_ _) | (with_reducible refine Kd.C_drew ?_)))
          (case side2 => exact (Kd.R_reads' HO312.out).2.1)
          rintro e w49 ⟨rfl, hb⟩
          refine ⟨_, rfl, ?_⟩
          have n0_ := Aside0.mk (Kd.V_below (Kd.vk HO_301001) hb)
          have n1_ := Aside0.mk (Kd.R_below (Kd.rk HO309) hb)
          have n2_ := Aside0.mk (Kd.R_below (Kd.rk HO312) hb)
          have n3_ := Aside0.mk (Kd.N_below (Kd.nk HO318) hb)
          have n4_ := Aside0.mk (Kd.R_below (Kd.rk HO322) hb)
          have n5_ := Aside0.mk (blk_below (g := gb300) (bk BK300) hb)
          have n6_ := Aside0.mk (blk_below (g := gb301) (bk BK301) hb)
          have n7_ := Aside0.mk (blk_below (g := gb313) (bk BK313) hb)
          have n8_ := Aside0.mk (below_step (gw_ HB) hb)
          clear HO_301001
          clear HO309
          clear HO312
          clear HO318
          clear HO322
          clear BK300
          clear BK301
          clear BK313
          clear HB
          have HO_301001 := n0_
          have HO309 := n1_
          have HO312 := n2_
          have HO318 := n3_
          have HO322 := n4_
          have BK300 := n5_
          have BK301 := n6_
          have BK313 := n7_
          have HB := n8_
          clear n0_ n1_ n2_ n3_ n4_ n5_ n6_ n7_ n8_
          (try clear hb)
          (try clear hb2)
          (try clear hk)
          (try clear hi)
          refine hK.out _ _ ⟨(blk_cell BK300.out 0).trans rfl, (blk_cell BK300.out 1).trans rfl, (blk_cell BK313.out 0).trans rfl, (blk_cell BK313.out 1).trans rfl, (blk_cell BK301.out 0).trans rfl, (blk_cell BK301.out 1).trans rfl⟩ (fun hHeld => ?_)
          clear hK K
          refine norm_ (a' := ?_) ?_ ?_
          rotate_left
          ·
           show Act.put _ (some 57) _ = _
           simp only [Act.put, List.setIfInBounds_toArray, List.set_cons_zero, List.set_cons_succ, i64_w, i32_w]
           rfl
          refine pure_ (i := 34) (N := some 58) (v := ?_) (a' := ?_) q8_35 rfl rfl (any_of HT_.out (by kernel_rfl)) (fun _ _ _ h => h) (Or.inl ⟨by rfl, ?_⟩) ?_ ?_
          rotate_left
          ·
           intro w'
           go_simp
           with_reducible rfl
          rotate_left
          ·
           simp only [Act.put, List.setIfInBounds_toArray, List.set_cons_zero, List.set_cons_succ, i64_w, i32_w]
           rfl
          refine pure_ (i := 35) (N := some 59) (v := ?_) (a' := ?_) q8_36 rfl rfl (any_of HT_.out (by kernel_rfl)) (fun _ _ _ h => h) (Or.inl ⟨by rfl, ?_⟩) ?_ ?_
          rotate_left
          ·
           intro w'
           go_simp
           with_reducible rfl
          rotate_left
          ·
           simp only [Act.put, List.setIfInBounds_toArray, List.set_cons_zero, List.set_cons_succ, i64_w, i32_w]
           rfl
          refine pure_ (i := 36) (N := some 4) (v := ?_) (a' := ?_) q8_37 rfl rfl (any_of HT_.out (by kernel_rfl)) (fun _ _ _ h => h) (Or.inl ⟨by rfl, ?_⟩) ?_ ?_
          rotate_left
          ·
           intro w'
           go_simp
           with_reducible rfl
          rotate_left
          ·
           simp only [Act.put, List.setIfInBounds_toArray, List.set_cons_zero, List.set_cons_succ, i64_w, i32_w]
           rfl
          refine done_ (done_of HT_.out (by kernel_rfl)) ?_
          try go_wp2
          go_ret
          exact ⟨by first | rfl | (simp [errW_none, errW_some] <;> rfl) | (simp [*, errW_none, errW_some] <;> rfl), gw_ HB⟩
         ·
          rw [if_neg c23] at H
          have c23b0 : decide (1 ≤ a1_1) = false := decide_eq_false c23
          clear c23
          replace H := Option.bind_eq_some_iff.mp H
          obtain ⟨t326, A500, H⟩ := H
          replace H : (if t326 = true then (some false) else ((attr_Waits.f a0_0 l0_1 a1_0 a1_1).bind fun t327 => ((attr_Waits.f a0_0 y310 a1_0 a1_1).bind fun t328 => (some (t327 == t328))))) = some r := H
          have A50 := Aside0.mk A500
          clear A500
          by_cases c51 : t326 = true
          ·
           subst c51
           have H1 : (some false) = some r := by rw [if_pos rfl] at H; exact H
           clear H
           have H := H1
           clear H1
           exact absurd (Option.some.inj H) (by rw [HRT.out]; decide)
          ·
           replace c51 := Bool.eq_false_iff.mpr c51
           subst c51
           have H1 : ((attr_Waits.f a0_0 l0_1 a1_0 a1_1).bind fun t327 => ((attr_Waits.f a0_0 y310 a1_0 a1_1).bind fun t328 => (some (t327 == t328)))) = some r := by rw [if_neg (show ¬ (false = true) by decide)] at H; exact H
           clear H
           have H := H1
           clear H1
           replace H := Option.bind_eq_some_iff.mp H
           obtain ⟨t327, A520, H⟩ := H
           replace H : ((attr_Waits.f a0_0 y310 a1_0 a1_1).bind fun t328 => (some (t327 == t328))) = some r := H
           have A52 := Aside0.mk A520
           clear A520
           replace H := Option.bind_eq_some_iff.mp H
           obtain ⟨t328, A530, H⟩ := H
           replace H : (some (t327 == t328)) = some r := H
           have A53 := Aside0.mk A530
           clear A530
           obtain rfl := Option.some.inj H
           try go_wp2
           have n0_ := Aside0.mk (Kd.V_drew HO_301001.out)
           have n1_ := Aside0.mk (blk_drew BK300.out)
           have n2_ := Aside0.mk (blk_drew BK301.out)
           have n3_ := Aside0.mk (below_drew1 HB.out)
           clear HO_301001
           clear BK300
           clear BK301
           clear HB
           have HO_301001 := n0_
           have BK300 := n1_
           have BK301 := n2_
           have HB := n3_
           clear n0_ n1_ n2_ n3_
           refine start_ (n := 10) (S := fun w' => w'.cell? ⟨gb300, 0, none⟩ = some (.int .i64 a0_0) ∧ w'.cell? ⟨gb300, 1, none⟩ = some (.slice A0_1 l0_1.length c0_1)) (ds := []) q8_38 (by kernel_rfl) rfl rfl ⟨(blk_cell BK300.out 0).trans rfl, (blk_cell BK300.out 1).trans rfl⟩ (fun hHeld => ?_); refine with_tabW colloquylaw06_AttrNone.tab4 colloquylaw06_AttrNone.bits4 (fun HT_ HW_ => ?_)
           generalize wc.drew = w54 at HO_301001 BK300 BK301 HB hHeld ⊢
           refine pure_ (i := 0) (N := some 16) (v := ?_) (a' := ?_) q8_39 rfl rfl (any_of HT_.out (by kernel_rfl)) (fun _ _ _ h => h) (Or.inl ⟨by rfl, ?_⟩) ?_ ?_
           rotate_left
           ·
            intro w'
            go_simp
            with_reducible rfl
           rotate_left
           ·
            simp only [Act.put, List.setIfInBounds_toArray, List.set_cons_zero, List.set_cons_succ, i64_w, i32_w]
            rfl
           refine pure_ (i := 2) (N := some 18) (v := ?_) (a' := ?_) q8_40 rfl rfl (any_of HT_.out (by kernel_rfl)) (fun _ _ _ h => h) (Or.inl ⟨by rfl, ?_⟩) ?_ ?_
           rotate_left
           ·
            intro w'
            go_simp
            with_reducible rfl
           rotate_left
           ·
            simp only [Act.put, List.setIfInBounds_toArray, List.set_cons_zero, List.set_cons_succ, i64_w, i32_w]
            rfl
           refine take_ (i := 1) (N := some 17) (v := ?_) (a' := ?_) q8_41 rfl rfl (take_ofW HT_.out HW_.out (by kernel_rfl)) (fun _ _ _ h => h) (Or.inl ⟨by rfl, ?_⟩) hHeld ?_ ?_
           rotate_left
           ·
            rintro w' ⟨s0, s1⟩
            go_simp
            with_reducible rfl
           rotate_left
           ·
            simp only [Act.put, List.setIfInBounds_toArray, List.set_cons_zero, List.set_cons_succ, i64_w, i32_w]
            rfl
           refine take_ (i := 3) (N := some 19) (v := ?_) (a' := ?_) q8_42 rfl rfl (take_ofW HT_.out HW_.out (by kernel_rfl)) (fun _ _ _ h => h) (Or.inl ⟨by rfl, ?_⟩) hHeld ?_ ?_
           rotate_left
           ·
            rintro w' ⟨s0, s1⟩
            go_simp
            with_reducible rfl
           rotate_left
           ·
            simp only [Act.put, List.setIfInBounds_toArray, List.set_cons_zero, List.set_cons_succ, i64_w, i32_w]
            rfl
           refine join_ (σ := Value × Value × Value × Nat) 1 q8_53 (fun s_ => [(20, s_.1), (21, s_.2.1), (22, s_.2.2.1), (6, .pointer (some ⟨s_.2.2.2, 0, none⟩)), (23, .agg #[.int .i64 a0_0, s_.2.2.1])]) (fun s_ w' => (w'.cell? ⟨gb300, 0, none⟩ = some (.int .i64 a0_0) ∧ w'.cell? ⟨gb300, 1, none⟩ = some (.slice A0_1 l0_1.length c0_1)) ∧ (Kd.R (Kd.int .i64) 3 w' w.heap.size (fun k_ => (w.heap.size ≤ k_) ∧ some k_ ≠ (s_.2.2.1 : Value).ownBlock) s_.2.1 y307) ∧ (Kd.R (Kd.int .i64) 3 w' w.heap.size (fun k_ => (w.heap.size ≤ k_) ∧ some k_ ≠ (s_.2.1 : Value).ownBlock) s_.2.2.1 y310) ∧ (Kd.V (Kd.int .i64) 3 w' w.heap.size (fun k_ => (P0_1_ k_ ∨ w.heap.size ≤ k_) ∧ some k_ ≠ (s_.2.1 : Value).ownBlock ∧ some k_ ≠ (s_.2.2.1 : Value).ownBlock ∧ k_ ≠ gb300 ∧ k_ ≠ gb301 ∧ k_ ≠ s_.2.2.2) (.slice A0_1 l0_1.length c0_1) l0_1) ∧ (w'.heap[gb300]? = some (.cells #[.int .i64 a0_0, .slice A0_1 l0_1.length c0_1] 27 (0, 0))) ∧ (w'.heap[gb301]? = some (.cells #[.int .i64 a1_0, .int .i64 a1_1] 33 (0, 0))) ∧ (w'.heap[s_.2.2.2]? = some (.cells #[.int .i64 0, .slice none 0 0] 27 (0, 0))) ∧ (w.heap.size ≤ s_.2.2.2) ∧ (w.heap.size ≤ s_.2.2.2) ∧ (gb300 ≠ s_.2.2.2) ∧ (s_.2.2.2 ≠ gb300) ∧ (gb301 ≠ s_.2.2.2) ∧ (s_.2.2.2 ≠ gb301) ∧ (Below w.heap.size w w')) ?_ ?_
           rotate_left
           ·
            intro hJ4_5_6_8
            refine join_ (σ := Value × Value × Value) 2 q8_52 (fun s_ => [(20, s_.1), (21, s_.2.1), (22, s_.2.2), (23, .agg #[.int .i64 a0_0, s_.2.2])]) (fun s_ w' => (w'.cell? ⟨gb300, 0, none⟩ = some (.int .i64 a0_0) ∧ w'.cell? ⟨gb300, 1, none⟩ = some (.slice A0_1 l0_1.length c0_1)) ∧ (Kd.R (Kd.int .i64) 3 w' w.heap.size (fun k_ => (w.heap.size ≤ k_) ∧ some k_ ≠ (s_.2.2 : Value).ownBlock) s_.2.1 y307) ∧ (Kd.R (Kd.int .i64) 3 w' w.heap.size (fun k_ => (w.heap.size ≤ k_) ∧ some k_ ≠ (s_.2.1 : Value).ownBlock) s_.2.2 y310) ∧ (Kd.V (Kd.int .i64) 3 w' w.heap.size (fun k_ => (P0_1_ k_ ∨ w.heap.size ≤ k_) ∧ some k_ ≠ (s_.2.1 : Value).ownBlock ∧ some k_ ≠ (s_.2.2 : Value).ownBlock ∧ k_ ≠ gb300 ∧ k_ ≠ gb301) (.slice A0_1 l0_1.length c0_1) l0_1) ∧ (w'.heap[gb300]? = some (.cells #[.int .i64 a0_0, .slice A0_1 l0_1.length c0_1] 27 (0, 0))) ∧ (w'.heap[gb301]? = some (.cells #[.int .i64 a1_0, .int .i64 a1_1] 33 (0, 0))) ∧ (Below w.heap.size w w')) ?_ ?_
            rotate_left
            ·
             intro hJ4_5_6
             refine join_ (σ := Value × Value × Nat) 3 q8_49 (fun s_ => [(20, s_.1), (21, s_.2.1), (6, .pointer (some ⟨s_.2.2, 0, none⟩))]) (fun s_ w' => (w'.cell? ⟨gb300, 0, none⟩ = some (.int .i64 a0_0) ∧ w'.cell? ⟨gb300, 1, none⟩ = some (.slice A0_1 l0_1.length c0_1)) ∧ (Kd.R (Kd.int .i64) 3 w' w.heap.size (fun k_ => (w.heap.size ≤ k_) ∧ some k_ ≠ (s_.2.1 : Value).ownBlock) s_.1 y304) ∧ (Kd.R (Kd.int .i64) 3 w' w.heap.size (fun k_ => (w.heap.size ≤ k_) ∧ some k_ ≠ (s_.1 : Value).ownBlock) s_.2.1 y307) ∧ (Kd.V (Kd.int .i64) 3 w' w.heap.size (fun k_ => (P0_1_ k_ ∨ w.heap.size ≤ k_) ∧ some k_ ≠ (s_.1 : Value).ownBlock ∧ some k_ ≠ (s_.2.1 : Value).ownBlock ∧ k_ ≠ gb300 ∧ k_ ≠ gb301 ∧ k_ ≠ s_.2.2) (.slice A0_1 l0_1.length c0_1) l0_1) ∧ (w'.heap[gb300]? = some (.cells #[.int .i64 a0_0, .slice A0_1 l0_1.length c0_1] 27 (0, 0))) ∧ (w'.heap[gb301]? = some (.cells #[.int .i64 a1_0, .int .i64 a1_1] 33 (0, 0))) ∧ (w'.heap[s_.2.2]? = some (.cells #[.int .i64 0, .slice none 0 0] 27 (0, 0))) ∧ (w.heap.size ≤ s_.2.2) ∧ (w.heap.size ≤ s_.2.2) ∧ (gb300 ≠ s_.2.2) ∧ (s_.2.2 ≠ gb300) ∧ (gb301 ≠ s_.2.2) ∧ (s_.2.2 ≠ gb301) ∧ (Below w.heap.size w w')) ?_ ?_
             rotate_left
             ·
              intro hJ4_5_8
              refine join_ (σ := Value × Value) 4 q8_48 (fun s_ => [(20, s_.1), (21, s_.2)]) (fun s_ w' => (w'.cell? ⟨gb300, 0, none⟩ = some (.int .i64 a0_0) ∧ w'.cell? ⟨gb300, 1, none⟩ = some (.slice A0_1 l0_1.length c0_1)) ∧ (Kd.R (Kd.int .i64) 3 w' w.heap.size (fun k_ => (w.heap.size ≤ k_) ∧ some k_ ≠ (s_.2 : Value).ownBlock) s_.1 y304) ∧ (Kd.R (Kd.int .i64) 3 w' w.heap.size (fun k_ => (w.heap.size ≤ k_) ∧ some k_ ≠ (s_.1 : Value).ownBlock) s_.2 y307) ∧ (Kd.V (Kd.int .i64) 3 w' w.heap.size (fun k_ => (P0_1_ k_ ∨ w.heap.size ≤ k_) ∧ some k_ ≠ (s_.1 : Value).ownBlock ∧ some k_ ≠ (s_.2 : Value).ownBlock ∧ k_ ≠ gb300 ∧ k_ ≠ gb301) (.slice A0_1 l0_1.length c0_1) l0_1) ∧ (w'.heap[gb300]? = some (.cells #[.int .i64 a0_0, .slice A0_1 l0_1.length c0_1] 27 (0, 0))) ∧ (w'.heap[gb301]? = some (.cells #[.int .i64 a1_0, .int .i64 a1_1] 33 (0, 0))) ∧ (Below w.heap.size w w')) ?_ ?_
              rotate_left
              ·
               intro hJ4_5
               refine join_ (σ := Value × Nat) 4 q8_47 (fun s_ => [(20, s_.1), (6, .pointer (some ⟨s_.2, 0, none⟩))]) (fun s_ w' => (w'.cell? ⟨gb300, 0, none⟩ = some (.int .i64 a0_0) ∧ w'.cell? ⟨gb300, 1, none⟩ = some (.slice A0_1 l0_1.length c0_1)) ∧ (Kd.R (Kd.int .i64) 3 w' w.heap.size (fun k_ => (w.heap.size ≤ k_)) s_.1 y304) ∧ (Kd.V (Kd.int .i64) 3 w' w.heap.size (fun k_ => (P0_1_ k_ ∨ w.heap.size ≤ k_) ∧ some k_ ≠ (s_.1 : Value).ownBlock ∧ k_ ≠ gb300 ∧ k_ ≠ gb301 ∧ k_ ≠ s_.2) (.slice A0_1 l0_1.length c0_1) l0_1) ∧ (w'.heap[gb300]? = some (.cells #[.int .i64 a0_0, .slice A0_1 l0_1.length c0_1] 27 (0, 0))) ∧ (w'.heap[gb301]? = some (.cells #[.int .i64 a1_0, .int .i64 a1_1] 33 (0, 0))) ∧ (w'.heap[s_.2]? = some (.cells #[.int .i64 0, .slice none 0 0] 27 (0, 0))) ∧ (w.heap.size ≤ s_.2) ∧ (w.heap.size ≤ s_.2) ∧ (gb300 ≠ s_.2) ∧ (s_.2 ≠ gb300) ∧ (gb301 ≠ s_.2) ∧ (s_.2 ≠ gb301) ∧ (Below w.heap.size w w')) ?_ ?_
               rotate_left
               ·
                intro hJ4_8
                refine join_ (σ := Value × Nat) 4 q8_46 (fun s_ => [(21, s_.1), (6, .pointer (some ⟨s_.2, 0, none⟩))]) (fun s_ w' => (w'.cell? ⟨gb300, 0, none⟩ = some (.int .i64 a0_0) ∧ w'.cell? ⟨gb300, 1, none⟩ = some (.slice A0_1 l0_1.length c0_1)) ∧ (Kd.R (Kd.int .i64) 3 w' w.heap.size (fun k_ => (w.heap.size ≤ k_)) s_.1 y307) ∧ (Kd.V (Kd.int .i64) 3 w' w.heap.size (fun k_ => (P0_1_ k_ ∨ w.heap.size ≤ k_) ∧ some k_ ≠ (s_.1 : Value).ownBlock ∧ k_ ≠ gb300 ∧ k_ ≠ gb301 ∧ k_ ≠ s_.2) (.slice A0_1 l0_1.length c0_1) l0_1) ∧ (w'.heap[gb300]? = some (.cells #[.int .i64 a0_0, .slice A0_1 l0_1.length c0_1] 27 (0, 0))) ∧ (w'.heap[gb301]? = some (.cells #[.int .i64 a1_0, .int .i64 a1_1] 33 (0, 0))) ∧ (w'.heap[s_.2]? = some (.cells #[.int .i64 0, .slice none 0 0] 27 (0, 0))) ∧ (w.heap.size ≤ s_.2) ∧ (w.heap.size ≤ s_.2) ∧ (gb300 ≠ s_.2) ∧ (s_.2 ≠ gb300) ∧ (gb301 ≠ s_.2) ∧ (s_.2 ≠ gb301) ∧ (Below w.heap.size w w')) ?_ ?_
                rotate_left
                ·
                 intro hJ5_8
                 refine join_ (σ := Value) 5 q8_45 (fun s_ => [(20, s_)]) (fun s_ w' => (w'.cell? ⟨gb300, 0, none⟩ = some (.int .i64 a0_0) ∧ w'.cell? ⟨gb300, 1, none⟩ = some (.slice A0_1 l0_1.length c0_1)) ∧ (Kd.R (Kd.int .i64) 3 w' w.heap.size (fun k_ => (w.heap.size ≤ k_)) s_ y304) ∧ (Kd.V (Kd.int .i64) 3 w' w.heap.size (fun k_ => (P0_1_ k_ ∨ w.heap.size ≤ k_) ∧ some k_ ≠ (s_ : Value).ownBlock ∧ k_ ≠ gb300 ∧ k_ ≠ gb301) (.slice A0_1 l0_1.length c0_1) l0_1) ∧ (w'.heap[gb300]? = some (.cells #[.int .i64 a0_0, .slice A0_1 l0_1.length c0_1] 27 (0, 0))) ∧ (w'.heap[gb301]? = some (.cells #[.int .i64 a1_0, .int .i64 a1_1] 33 (0, 0))) ∧ (Below w.heap.size w w')) ?_ ?_
                 rotate_left
                 ·
                  intro hJ4
                  refine join_ (σ := Value) 5 q8_44 (fun s_ => [(21, s_)]) (fun s_ w' => (w'.cell? ⟨gb300, 0, none⟩ = some (.int .i64 a0_0) ∧ w'.cell? ⟨gb300, 1, none⟩ = some (.slice A0_1 l0_1.length c0_1)) ∧ (Kd.R (Kd.int .i64) 3 w' w.heap.size (fun k_ => (w.heap.size ≤ k_)) s_ y307) ∧ (Kd.V (Kd.int .i64) 3 w' w.heap.size (fun k_ => (P0_1_ k_ ∨ w.heap.size ≤ k_) ∧ some k_ ≠ (s_ : Value).ownBlock ∧ k_ ≠ gb300 ∧ k_ ≠ gb301) (.slice A0_1 l0_1.length c0_1) l0_1) ∧ (w'.heap[gb300]? = some (.cells #[.int .i64 a0_0, .slice A0_1 l0_1.length c0_1] 27 (0, 0))) ∧ (w'.heap[gb301]? = some (.cells #[.int .i64 a1_0, .int .i64 a1_1] 33 (0, 0))) ∧ (Below w.heap.size w w')) ?_ ?_
                  rotate_left
                  ·
                   intro hJ5
                   refine join_ (σ := Nat) 5 q8_43 (fun s_ => [(6, .pointer (some ⟨s_, 0, none⟩))]) (fun s_ w' => (w'.cell? ⟨gb300, 0, none⟩ = some (.int .i64 a0_0) ∧ w'.cell? ⟨gb300, 1, none⟩ = some (.slice A0_1 l0_1.length c0_1)) ∧ (Kd.V (Kd.int .i64) 3 w' w.heap.size (fun k_ => (P0_1_ k_ ∨ w.heap.size ≤ k_) ∧ k_ ≠ gb300 ∧ k_ ≠ gb301 ∧ k_ ≠ s_) (.slice A0_1 l0_1.length c0_1) l0_1) ∧ (w'.heap[gb300]? = some (.cells #[.int .i64 a0_0, .slice A0_1 l0_1.length c0_1] 27 (0, 0))) ∧ (w'.heap[gb301]? = some (.cells #[.int .i64 a1_0, .int .i64 a1_1] 33 (0, 0))) ∧ (w'.heap[s_]? = some (.cells #[.int .i64 0, .slice none 0 0] 27 (0, 0))) ∧ (w.heap.size ≤ s_) ∧ (w.heap.size ≤ s_) ∧ (gb300 ≠ s_) ∧ (s_ ≠ gb300) ∧ (gb301 ≠ s_) ∧ (s_ ≠ gb301) ∧ (Below w.heap.size w w')) ?_ ?_
                   rotate_left
                   ·
                    intro hJ8
                    refine three_ (i := 4) (j := 5) (k := 8) (Ni := some 20) (Nj := some 21) (Nk := some 6) q8_45 q8_44 q8_43 rfl rfl rfl rfl rfl rfl (three_of HT_.out (by kernel_rfl)) (by decide) (by decide) (by decide) (fun K hK => ?_) (fun K hK => ?_) (fun K hK => ?_)
                    ·
                     skip
                     refine Kd.R_append_rows_step (Kd.int .i64) (w0 := w) w.heap.size (by rfl) (.const (.slice none 0 0)) (.tmp 19) 25 3 (.int .i64 0) 8 rfl Try.underlying25 info3 rfl (by decide) (by omega) (.slice none 0 0) ([] : List Int) l0_1 _ _ _ (fun k_ => (w.heap.size ≤ k_)) (fun _ => False) rfl rfl ?aO ?aR (fun _ _ h => h) (fun _ h => h.elim) ?aF ?aB ?aS ?aL ?_
                     (case aR => repeat (first | exact (Kd.V_reads' HO_301001.out).2.2 | (with_reducible refine Kd.C_alloc ?_ _) | (with_reducible refine Kd.C_drewN ?_ _) | (with_reducible refine Kd.C_drew ?_)))
                     (case aB => exact (gw_ HB))
                     (case aF => exact (fun k_ hk => (Nat.le_trans (below_size (gw_ HB)) hk)))
                     (case aO => exact ((Kd.R_nil _ _ _ _ (fun k_ => (w.heap.size ≤ k_)))))
                     (case aS => exact (below_size (gw_ HB)))
                     (case aL => have := LMc14.out; omega)
                     intro v305 w55 ho hb hg hat
                     rw [← Ny304.out] at ho
                     have n0_ := Aside0.mk (Kd.V_afterv (Kd.V_apart_nil (Kd.vk HO_301001)) hg hat)
                     have n1_ := Aside0.mk (blk_grown (g := gb300) (bk BK300) hg (by simp [Value.ownBlock]))
                     have n2_ := Aside0.mk (blk_grown (g := gb301) (bk BK301) hg (by simp [Value.ownBlock]))
                     have n3_ := Aside0.mk (hb)
                     have n4_ := Aside0.mk (ho)
                     clear HO_301001
                     clear BK300
                     clear BK301
                     clear HB
                     have HO_301001 := n0_
                     have BK300 := n1_
                     have BK301 := n2_
                     have HB := n3_
                     have HO306 := n4_
                     clear n0_ n1_ n2_ n3_ n4_
                     clear ho hb hg hat
                     refine hK.out _ _ ⟨(blk_cell BK300.out 0).trans rfl, (blk_cell BK300.out 1).trans rfl⟩ (fun hHeld => ?_)
                     clear hK K
                     refine norm_ (a' := ?_) ?_ ?_
                     rotate_left
                     ·
                      show Act.put _ (some 20) _ = _
                      simp only [Act.put, List.setIfInBounds_toArray, List.set_cons_zero, List.set_cons_succ, i64_w, i32_w]
                      rfl
                     exact norm_ (by first | (simp only [putAll, Act.put, List.setIfInBounds_toArray, List.set_cons_zero, List.set_cons_succ]; done) | (simp only [putAll, Act.put, List.setIfInBounds_toArray, List.set_cons_zero, List.set_cons_succ]; rfl)) (hJ4 (v305) _ ⟨hHeld, (Kd.rk HO306), (by (with_reducible repeat (first | apply Kd.V_alloc | apply Kd.V_drewN | apply Kd.V_drew)); exact Kd.V_mono HO_301001.out (fun _ hk => ⟨hk.1.1, ⟨hk.2, ⟨hk.1.2.1, hk.1.2.2⟩⟩⟩)), (bk BK300), (bk BK301), (gw_ HB)⟩)
                    ·
                     skip
                     refine Kd.R_lit_step (Kd.int .i64) _ 3 ?hg (N := 21) ?hd (xs := ([0, 0] : List Int)) (inner := [.int .i64 0, .int .i64 0]) (ok := fun _ => True) (okp := fun _ => True) ?hr ?hp (fun _ hk => hk) trivial (Below.refl _ _) (Nat.le_refl _) (by simp) ?_; (case hd => rfl); (case hg => rfl); (case hr => first | (go_simp; done) | (go_simp; rfl)); (case hp => exact (Reps.one (show Kd.M (Kd.int .i64) _ _ _ 0 [.int .i64 0] from rfl) (Reps.one (show Kd.M (Kd.int .i64) _ _ _ 0 [.int .i64 0] from rfl) (Reps.none _ _))))
                     intro v308 w55 ho56 hb hg_ hnew_
                     clear hg_ hnew_
                     (first | rw [← Ny307.out] at ho56 | (simp only [Int.reduceToNat] at ho56; rw [← Ny307.out] at ho56))
                     have n0_ := Aside0.mk (Kd.V_elder' (Kd.vk HO_301001) (Kd.R_base ho56) hb)
                     have n1_ := Aside0.mk (Kd.R_lower (Kd.R_newM (M := fun k_ => (w.heap.size ≤ k_)) ho56 (below_size (gw_ HB)) (fun k_ h_ => h_)) (below_size (gw_ HB)))
                     have n2_ := Aside0.mk (blk_below (g := gb300) (bk BK300) hb)
                     have n3_ := Aside0.mk (blk_below (g := gb301) (bk BK301) hb)
                     have n4_ := Aside0.mk (below_step (gw_ HB) hb)
                     clear HO_301001
                     clear BK300
                     clear BK301
                     clear HB
                     have HO_301001 := n0_
                     have HO309 := n1_
                     have BK300 := n2_
                     have BK301 := n3_
                     have HB := n4_
                     clear n0_ n1_ n2_ n3_ n4_
                     clear hb ho56
                     refine hK.out _ _ ⟨(blk_cell BK300.out 0).trans rfl, (blk_cell BK300.out 1).trans rfl⟩ (fun hHeld => ?_)
                     clear hK K
                     refine norm_ (a' := ?_) ?_ ?_
                     rotate_left
                     ·
                      show Act.put _ (some 21) _ = _
                      simp only [Act.put, List.setIfInBounds_toArray, List.set_cons_zero, List.set_cons_succ, i64_w, i32_w]
                      rfl
                     exact norm_ (by first | (simp only [putAll, Act.put, List.setIfInBounds_toArray, List.set_cons_zero, List.set_cons_succ]; done) | (simp only [putAll, Act.put, List.setIfInBounds_toArray, List.set_cons_zero, List.set_cons_succ]; rfl)) (hJ5 (v308) _ ⟨hHeld, (by (with_reducible repeat (first | apply Kd.R_alloc | apply Kd.R_drewN | apply Kd.R_drew)); exact Kd.R_mono HO309.out (fun _ hk => hk.1)), (by (with_reducible repeat (first | apply Kd.V_alloc | apply Kd.V_drewN | apply Kd.V_drew)); exact Kd.V_mono HO_301001.out (fun _ hk => ⟨hk.1.1, ⟨hk.2, ⟨hk.1.2.1, hk.1.2.2⟩⟩⟩)), (bk BK300), (bk BK301), (gw_ HB)⟩)
                    ·
                     skip
                     refine box_step ?hg (N := 6) ?hd (cs := #[.int .i64 0, .slice none 0 0]) (t := 27) ?hr ?_; (case hd => rfl); (case hg => rfl); (case hr => first | (go_simp; done) | (go_simp; rfl))
                     intro gb313 hg w55 hbox hb
                     have n0_ := Aside0.mk (Kd.V_below (Kd.V_elderB (Kd.vk HO_301001) gb313 (Nat.le_of_eq hg.symm)) hb)
                     have n1_ := Aside0.mk (blk_below (g := gb300) (bk BK300) hb)
                     have n2_ := Aside0.mk (blk_below (g := gb301) (bk BK301) hb)
                     have n3_ := Aside0.mk (below_step (gw_ HB) hb)
                     have n4_ := Aside0.mk (hbox)
                     have n5_ := Aside0.mk ((by rw [hg]; exact (below_size (gw_ HB)) : w.heap.size ≤ gb313))
                     have n6_ := Aside0.mk ((by rw [hg]; exact (below_size (gw_ HB)) : w.heap.size ≤ gb313))
                     have n7_ := Aside0.mk ((by rw [hg]; exact Nat.ne_of_lt (blk_lt (g := gb300) (bk BK300)) : gb300 ≠ gb313))
                     have n8_ := Aside0.mk ((by rw [hg]; exact Nat.ne_of_gt (blk_lt (g := gb300) (bk BK300)) : gb313 ≠ gb300))
                     have n9_ := Aside0.mk ((by rw [hg]; exact Nat.ne_of_lt (blk_lt (g := gb301) (bk BK301)) : gb301 ≠ gb313))
                     have n10_ := Aside0.mk ((by rw [hg]; exact Nat.ne_of_gt (blk_lt (g := gb301) (bk BK301)) : gb313 ≠ gb301))
                     clear HO_301001
                     clear BK300
                     clear BK301
                     clear HB
                     have HO_301001 := n0_
                     have BK300 := n1_
                     have BK301 := n2_
                     have HB := n3_
                     have BK313 := n4_
                     have GW313 := n5_
                     have GE313 := n6_
                     have NB300_313 := n7_
                     have NB313_300 := n8_
                     have NB301_313 := n9_
                     have NB313_301 := n10_
                     clear n0_ n1_ n2_ n3_ n4_ n5_ n6_ n7_ n8_ n9_ n10_
                     clear hb hbox hg
                     refine hK.out _ _ ⟨(blk_cell BK300.out 0).trans rfl, (blk_cell BK300.out 1).trans rfl⟩ (fun hHeld => ?_)
                     clear hK K
                     refine norm_ (a' := ?_) ?_ ?_
                     rotate_left
                     ·
                      show Act.put _ (some 6) _ = _
                      simp only [Act.put, List.setIfInBounds_toArray, List.set_cons_zero, List.set_cons_succ, i64_w, i32_w]
                      rfl
                     exact norm_ (by first | (simp only [putAll, Act.put, List.setIfInBounds_toArray, List.set_cons_zero, List.set_cons_succ]; done) | (simp only [putAll, Act.put, List.setIfInBounds_toArray, List.set_cons_zero, List.set_cons_succ]; rfl)) (hJ8 (gb313) _ ⟨hHeld, (by (with_reducible repeat (first | apply Kd.V_alloc | apply Kd.V_drewN | apply Kd.V_drew)); exact Kd.V_mono HO_301001.out (fun _ hk => ⟨hk.1.1, ⟨hk.1.2.1, ⟨hk.1.2.2, hk.2⟩⟩⟩)), (bk BK300), (bk BK301), (bk BK313), GW313.out, GE313.out, NB300_313.out, NB313_300.out, NB301_313.out, NB313_301.out, (gw_ HB)⟩)
                   ·
                    skip
                    rintro gb313 w56 ⟨hS_, h0_, h1_, h2_, h3_, h4_, h5_, h6_, h7_, h8_, h9_, h10_⟩
                    have n0_ : Aside0 (Kd.V (Kd.int .i64) 3 w56 w.heap.size (fun k_ => (P0_1_ k_ ∨ w.heap.size ≤ k_) ∧ k_ ≠ gb300 ∧ k_ ≠ gb301 ∧ k_ ≠ gb313) (.slice A0_1 l0_1.length c0_1) l0_1) := ⟨h0_⟩
                    have n1_ : Aside0 (w56.heap[gb300]? = some (.cells #[.int .i64 a0_0, .slice A0_1 l0_1.length c0_1] 27 (0, 0))) := ⟨h1_⟩
                    have n2_ : Aside0 (w56.heap[gb301]? = some (.cells #[.int .i64 a1_0, .int .i64 a1_1] 33 (0, 0))) := ⟨h2_⟩
                    have n3_ : Aside0 (w56.heap[gb313]? = some (.cells #[.int .i64 0, .slice none 0 0] 27 (0, 0))) := ⟨h3_⟩
                    have n4_ : Aside0 (w.heap.size ≤ gb313) := ⟨h4_⟩
                    have n5_ : Aside0 (w.heap.size ≤ gb313) := ⟨h5_⟩
                    have n6_ : Aside0 (gb300 ≠ gb313) := ⟨h6_⟩
                    have n7_ : Aside0 (gb313 ≠ gb300) := ⟨h7_⟩
                    have n8_ : Aside0 (gb301 ≠ gb313) := ⟨h8_⟩
                    have n9_ : Aside0 (gb313 ≠ gb301) := ⟨h9_⟩
                    have n10_ : Aside0 (Below w.heap.size w w56) := ⟨h10_⟩
                    clear HO_301001
                    clear BK300
                    clear BK301
                    clear HB
                    clear h0_ h1_ h2_ h3_ h4_ h5_ h6_ h7_ h8_ h9_ h10_
                    have HO_301001 := n0_
                    have BK300 := n1_
                    have BK301 := n2_
                    have BK313 := n3_
                    have GW313 := n4_
                    have GE313 := n5_
                    have NB300_313 := n6_
                    have NB313_300 := n7_
                    have NB301_313 := n8_
                    have NB313_301 := n9_
                    have HB := n10_
                    clear n0_ n1_ n2_ n3_ n4_ n5_ n6_ n7_ n8_ n9_ n10_
                    have hHeld : w56.cell? ⟨gb300, 0, none⟩ = some (.int .i64 a0_0) ∧ w56.cell? ⟨gb300, 1, none⟩ = some (.slice A0_1 l0_1.length c0_1) := hS_
                    refine norm_ (a' := ?_) ?_ ?_
                    rotate_left
                    ·
                     simp only [putAll, Act.put, List.setIfInBounds_toArray, List.set_cons_zero, List.set_cons_succ]
                     rfl
                    refine two_ (i := 4) (j := 5) (Ni := some 20) (Nj := some 21) q8_47 q8_46 rfl rfl rfl rfl (two_of HT_.out (by kernel_rfl)) (by decide) (by decide) (fun K hK => ?_) (fun K hK => ?_)
                    ·
                     skip
                     refine Kd.R_append_rows_step (Kd.int .i64) (w0 := w) w.heap.size (by rfl) (.const (.slice none 0 0)) (.tmp 19) 25 3 (.int .i64 0) 8 rfl Try.underlying25 info3 rfl (by decide) (by omega) (.slice none 0 0) ([] : List Int) l0_1 _ _ _ (fun k_ => (w.heap.size ≤ k_)) (fun _ => False) rfl rfl ?aO ?aR (fun _ _ h => h) (fun _ h => h.elim) ?aF ?aB ?aS ?aL ?_
                     (case aR => repeat (first | exact (Kd.V_reads' HO_301001.out).2.2 | (with_reducible refine Kd.C_alloc ?_ _) | (with_reducible refine Kd.C_drewN ?_ _) | (with_reducible refine Kd.C_drew ?_)))
                     (case aB => exact (gw_ HB))
                     (case aF => exact (fun k_ hk => (Nat.le_trans (below_size (gw_ HB)) hk)))
                     (case aO => exact ((Kd.R_nil _ _ _ _ (fun k_ => (w.heap.size ≤ k_)))))
                     (case aS => exact (below_size (gw_ HB)))
                     (case aL => have := LMc14.out; omega)
                     intro v305 w57 ho hb hg hat
                     rw [← Ny304.out] at ho
                     have n0_ := Aside0.mk (Kd.V_afterv (Kd.V_apart_nil (Kd.vk HO_301001)) hg hat)
                     have n1_ := Aside0.mk (blk_grown (g := gb300) (bk BK300) hg (by simp [Value.ownBlock]))
                     have n2_ := Aside0.mk (blk_grown (g := gb301) (bk BK301) hg (by simp [Value.ownBlock]))
                     have n3_ := Aside0.mk (blk_grown (g := gb313) (bk BK313) hg (by simp [Value.ownBlock]))
                     have n4_ := Aside0.mk (hb)
                     have n5_ := Aside0.mk (ho)
                     clear HO_301001
                     clear BK300
                     clear BK301
                     clear BK313
                     clear HB
                     have HO_301001 := n0_
                     have BK300 := n1_
                     have BK301 := n2_
                     have BK313 := n3_
                     have HB := n4_
                     have HO306 := n5_
                     clear n0_ n1_ n2_ n3_ n4_ n5_
                     clear ho hb hg hat
                     refine hK.out _ _ ⟨(blk_cell BK300.out 0).trans rfl, (blk_cell BK300.out 1).trans rfl⟩ (fun hHeld => ?_)
                     clear hK K
                     refine norm_ (a' := ?_) ?_ ?_
                     rotate_left
                     ·
                      show Act.put _ (some 20) _ = _
                      simp only [Act.put, List.setIfInBounds_toArray, List.set_cons_zero, List.set_cons_succ, i64_w, i32_w]
                      rfl
                     exact norm_ (by first | (simp only [putAll, Act.put, List.setIfInBounds_toArray, List.set_cons_zero, List.set_cons_succ]; done) | (simp only [putAll, Act.put, List.setIfInBounds_toArray, List.set_cons_zero, List.set_cons_succ]; rfl)) (hJ4_8 (v305, gb313) _ ⟨hHeld, (Kd.rk HO306), (by (with_reducible repeat (first | apply Kd.V_alloc | apply Kd.V_drewN | apply Kd.V_drew)); exact Kd.V_mono HO_301001.out (fun _ hk => ⟨hk.1.1, ⟨hk.2, ⟨hk.1.2.1, ⟨hk.1.2.2.1, hk.1.2.2.2⟩⟩⟩⟩)), (bk BK300), (bk BK301), (bk BK313), GW313.out, GE313.out, NB300_313.out, NB313_300.out, NB301_313.out, NB313_301.out, (gw_ HB)⟩)
                    ·
                     skip
                     refine Kd.R_lit_step (Kd.int .i64) _ 3 ?hg (N := 21) ?hd (xs := ([0, 0] : List Int)) (inner := [.int .i64 0, .int .i64 0]) (ok := fun _ => True) (okp := fun _ => True) ?hr ?hp (fun _ hk => hk) trivial (Below.refl _ _) (Nat.le_refl _) (by simp) ?_; (case hd => rfl); (case hg => rfl); (case hr => first | (go_simp; done) | (go_simp; rfl)); (case hp => exact (Reps.one (show Kd.M (Kd.int .i64) _ _ _ 0 [.int .i64 0] from rfl) (Reps.one (show Kd.M (Kd.int .i64) _ _ _ 0 [.int .i64 0] from rfl) (Reps.none _ _))))
                     intro v308 w57 ho58 hb hg_ hnew_
                     clear hg_ hnew_
                     (first | rw [← Ny307.out] at ho58 | (simp only [Int.reduceToNat] at ho58; rw [← Ny307.out] at ho58))
                     have n0_ := Aside0.mk (Kd.V_elder' (Kd.vk HO_301001) (Kd.R_base ho58) hb)
                     have n1_ := Aside0.mk (Kd.R_lower (Kd.R_newM (M := fun k_ => (w.heap.size ≤ k_)) ho58 (below_size (gw_ HB)) (fun k_ h_ => h_)) (below_size (gw_ HB)))
                     have n2_ := Aside0.mk (blk_below (g := gb300) (bk BK300) hb)
                     have n3_ := Aside0.mk (blk_below (g := gb301) (bk BK301) hb)
                     have n4_ := Aside0.mk (blk_below (g := gb313) (bk BK313) hb)
                     have n5_ := Aside0.mk (below_step (gw_ HB) hb)
                     clear HO_301001
                     clear BK300
                     clear BK301
                     clear BK313
                     clear HB
                     have HO_301001 := n0_
                     have HO309 := n1_
                     have BK300 := n2_
                     have BK301 := n3_
                     have BK313 := n4_
                     have HB := n5_
                     clear n0_ n1_ n2_ n3_ n4_ n5_
                     clear hb ho58
                     refine hK.out _ _ ⟨(blk_cell BK300.out 0).trans rfl, (blk_cell BK300.out 1).trans rfl⟩ (fun hHeld => ?_)
                     clear hK K
                     refine norm_ (a' := ?_) ?_ ?_
                     rotate_left
                     ·
                      show Act.put _ (some 21) _ = _
                      simp only [Act.put, List.setIfInBounds_toArray, List.set_cons_zero, List.set_cons_succ, i64_w, i32_w]
                      rfl
                     exact norm_ (by first | (simp only [putAll, Act.put, List.setIfInBounds_toArray, List.set_cons_zero, List.set_cons_succ]; done) | (simp only [putAll, Act.put, List.setIfInBounds_toArray, List.set_cons_zero, List.set_cons_succ]; rfl)) (hJ5_8 (v308, gb313) _ ⟨hHeld, (by (with_reducible repeat (first | apply Kd.R_alloc | apply Kd.R_drewN | apply Kd.R_drew)); exact Kd.R_mono HO309.out (fun _ hk => hk.1)), (by (with_reducible repeat (first | apply Kd.V_alloc | apply Kd.V_drewN | apply Kd.V_drew)); exact Kd.V_mono HO_301001.out (fun _ hk => ⟨hk.1.1, ⟨hk.2, ⟨hk.1.2.1, ⟨hk.1.2.2.1, hk.1.2.2.2⟩⟩⟩⟩)), (bk BK300), (bk BK301), (bk BK313), GW313.out, GE313.out, NB300_313.out, NB313_300.out, NB301_313.out, NB313_301.out, (gw_ HB)⟩)
                  ·
                   skip
                   rintro v308 w57 ⟨hS_, h0_, h1_, h2_, h3_, h4_⟩
                   have n0_ : Aside0 (Kd.R (Kd.int .i64) 3 w57 w.heap.size (fun k_ => (w.heap.size ≤ k_)) v308 y307) := ⟨h0_⟩
                   have n1_ : Aside0 (Kd.V (Kd.int .i64) 3 w57 w.heap.size (fun k_ => (P0_1_ k_ ∨ w.heap.size ≤ k_) ∧ some k_ ≠ (v308 : Value).ownBlock ∧ k_ ≠ gb300 ∧ k_ ≠ gb301) (.slice A0_1 l0_1.length c0_1) l0_1) := ⟨h1_⟩
                   have n2_ : Aside0 (w57.heap[gb300]? = some (.cells #[.int .i64 a0_0, .slice A0_1 l0_1.length c0_1] 27 (0, 0))) := ⟨h2_⟩
                   have n3_ : Aside0 (w57.heap[gb301]? = some (.cells #[.int .i64 a1_0, .int .i64 a1_1] 33 (0, 0))) := ⟨h3_⟩
                   have n4_ : Aside0 (Below w.heap.size w w57) := ⟨h4_⟩
                   clear HO_301001
                   clear BK300
                   clear BK301
                   clear HB
                   clear h0_ h1_ h2_ h3_ h4_
                   have HO309 := n0_
                   have HO_301001 := n1_
                   have BK300 := n2_
                   have BK301 := n3_
                   have HB := n4_
                   clear n0_ n1_ n2_ n3_ n4_
                   have hHeld : w57.cell? ⟨gb300, 0, none⟩ = some (.int .i64 a0_0) ∧ w57.cell? ⟨gb300, 1, none⟩ = some (.slice A0_1 l0_1.length c0_1) := hS_
                   refine norm_ (a' := ?_) ?_ ?_
                   rotate_left
                   ·
                    simp only [putAll, Act.put, List.setIfInBounds_toArray, List.set_cons_zero, List.set_cons_succ]
                    rfl
                   refine two_ (i := 4) (j := 8) (Ni := some 20) (Nj := some 6) q8_48 q8_46 rfl rfl rfl rfl (two_of HT_.out (by kernel_rfl)) (by decide) (by decide) (fun K hK => ?_) (fun K hK => ?_)
                   ·
                    skip
                    refine Kd.R_append_rows_step (Kd.int .i64) (w0 := w) w.heap.size (by rfl) (.const (.slice none 0 0)) (.tmp 19) 25 3 (.int .i64 0) 8 rfl Try.underlying25 info3 rfl (by decide) (by omega) (.slice none 0 0) ([] : List Int) l0_1 _ _ _ (fun k_ => (w.heap.size ≤ k_) ∧ some k_ ≠ (v308 : Value).ownBlock) (fun _ => False) rfl rfl ?aO ?aR (fun _ _ h => h) (fun _ h => h.elim) ?aF ?aB ?aS ?aL ?_
                    (case aR => repeat (first | exact (Kd.V_reads' HO_301001.out).2.2 | (with_reducible refine Kd.C_alloc ?_ _) | (with_reducible refine Kd.C_drewN ?_ _) | (with_reducible refine Kd.C_drew ?_)))
                    (case aB => exact (gw_ HB))
                    (case aF => exact (fun k_ hk => ⟨(Nat.le_trans (below_size (gw_ HB)) hk), Kd.fresh' (Kd.R_lt (Kd.rk HO309)) k_ hk⟩))
                    (case aO => exact ((Kd.R_nil _ _ _ _ (fun k_ => (w.heap.size ≤ k_) ∧ some k_ ≠ (v308 : Value).ownBlock))))
                    (case aS => exact (below_size (gw_ HB)))
                    (case aL => have := LMc14.out; omega)
                    intro v305 w58 ho hb hg hat
                    rw [← Ny304.out] at ho
                    have n0_ := Aside0.mk (Kd.V_afterv (Kd.V_apart_nil (Kd.vk HO_301001)) hg hat)
                    have n1_ := Aside0.mk (blk_grown (g := gb300) (bk BK300) hg (by simp [Value.ownBlock]))
                    have n2_ := Aside0.mk (blk_grown (g := gb301) (bk BK301) hg (by simp [Value.ownBlock]))
                    have n3_ := Aside0.mk (Kd.R_after (Kd.R_apart_nil (Kd.rk HO309)) hg hat)
                    have n4_ := Aside0.mk (hb)
                    have n5_ := Aside0.mk (ho)
                    clear HO_301001
                    clear BK300
                    clear BK301
                    clear HO309
                    clear HB
                    have HO_301001 := n0_
                    have BK300 := n1_
                    have BK301 := n2_
                    have HO309 := n3_
                    have HB := n4_
                    have HO306 := n5_
                    clear n0_ n1_ n2_ n3_ n4_ n5_
                    clear ho hb hg hat
                    refine hK.out _ _ ⟨(blk_cell BK300.out 0).trans rfl, (blk_cell BK300.out 1).trans rfl⟩ (fun hHeld => ?_)
                    clear hK K
                    refine norm_ (a' := ?_) ?_ ?_
                    rotate_left
                    ·
                     show Act.put _ (some 20) _ = _
                     simp only [Act.put, List.setIfInBounds_toArray, List.set_cons_zero, List.set_cons_succ, i64_w, i32_w]
                     rfl
                    exact norm_ (by first | (simp only [putAll, Act.put, List.setIfInBounds_toArray, List.set_cons_zero, List.set_cons_succ]; done) | (simp only [putAll, Act.put, List.setIfInBounds_toArray, List.set_cons_zero, List.set_cons_succ]; rfl)) (hJ4_5 (v305, v308) _ ⟨hHeld, (Kd.rk HO306), (Kd.rk HO309), (by (with_reducible repeat (first | apply Kd.V_alloc | apply Kd.V_drewN | apply Kd.V_drew)); exact Kd.V_mono HO_301001.out (fun _ hk => ⟨hk.1.1, ⟨hk.2, ⟨hk.1.2.1, ⟨hk.1.2.2.1, hk.1.2.2.2⟩⟩⟩⟩)), (bk BK300), (bk BK301), (gw_ HB)⟩)
                   ·
                    skip
                    refine box_step ?hg (N := 6) ?hd (cs := #[.int .i64 0, .slice none 0 0]) (t := 27) ?hr ?_; (case hd => rfl); (case hg => rfl); (case hr => first | (go_simp; done) | (go_simp; rfl))
                    intro gb313 hg w58 hbox hb
                    have n0_ := Aside0.mk (Kd.V_below (Kd.V_elderB (Kd.vk HO_301001) gb313 (Nat.le_of_eq hg.symm)) hb)
                    have n1_ := Aside0.mk (Kd.R_below (Kd.rk HO309) hb)
                    have n2_ := Aside0.mk (blk_below (g := gb300) (bk BK300) hb)
                    have n3_ := Aside0.mk (blk_below (g := gb301) (bk BK301) hb)
                    have n4_ := Aside0.mk (below_step (gw_ HB) hb)
                    have n5_ := Aside0.mk (hbox)
                    have n6_ := Aside0.mk ((by rw [hg]; exact (below_size (gw_ HB)) : w.heap.size ≤ gb313))
                    have n7_ := Aside0.mk ((by rw [hg]; exact (below_size (gw_ HB)) : w.heap.size ≤ gb313))
                    have n8_ := Aside0.mk ((by rw [hg]; exact Nat.ne_of_lt (blk_lt (g := gb300) (bk BK300)) : gb300 ≠ gb313))
                    have n9_ := Aside0.mk ((by rw [hg]; exact Nat.ne_of_gt (blk_lt (g := gb300) (bk BK300)) : gb313 ≠ gb300))
                    have n10_ := Aside0.mk ((by rw [hg]; exact Nat.ne_of_lt (blk_lt (g := gb301) (bk BK301)) : gb301 ≠ gb313))
                    have n11_ := Aside0.mk ((by rw [hg]; exact Nat.ne_of_gt (blk_lt (g := gb301) (bk BK301)) : gb313 ≠ gb301))
                    clear HO_301001
                    clear HO309
                    clear BK300
                    clear BK301
                    clear HB
                    have HO_301001 := n0_
                    have HO309 := n1_
                    have BK300 := n2_
                    have BK301 := n3_
                    have HB := n4_
                    have BK313 := n5_
                    have GW313 := n6_
                    have GE313 := n7_
                    have NB300_313 := n8_
                    have NB313_300 := n9_
                    have NB301_313 := n10_
                    have NB313_301 := n11_
                    clear n0_ n1_ n2_ n3_ n4_ n5_ n6_ n7_ n8_ n9_ n10_ n11_
                    clear hb hbox hg
                    refine hK.out _ _ ⟨(blk_cell BK300.out 0).trans rfl, (blk_cell BK300.out 1).trans rfl⟩ (fun hHeld => ?_)
                    clear hK K
                    refine norm_ (a' := ?_) ?_ ?_
                    rotate_left
                    ·
                     show Act.put _ (some 6) _ = _
                     simp only [Act.put, List.setIfInBounds_toArray, List.set_cons_zero, List.set_cons_succ, i64_w, i32_w]
                     rfl
                    exact norm_ (by first | (simp only [putAll, Act.put, List.setIfInBounds_toArray, List.set_cons_zero, List.set_cons_succ]; done) | (simp only [putAll, Act.put, List.setIfInBounds_toArray, List.set_cons_zero, List.set_cons_succ]; rfl)) (hJ5_8 (v308, gb313) _ ⟨hHeld, (Kd.rk HO309), (by (with_reducible repeat (first | apply Kd.V_alloc | apply Kd.V_drewN | apply Kd.V_drew)); exact Kd.V_mono HO_301001.out (fun _ hk => ⟨hk.1.1, ⟨hk.1.2.1, ⟨hk.1.2.2.1, ⟨hk.1.2.2.2, hk.2⟩⟩⟩⟩)), (bk BK300), (bk BK301), (bk BK313), GW313.out, GE313.out, NB300_313.out, NB313_300.out, NB301_313.out, NB313_301.out, (gw_ HB)⟩)
                 ·
                  skip
                  rintro v305 w56 ⟨hS_, h0_, h1_, h2_, h3_, h4_⟩
                  have n0_ : Aside0 (Kd.R (Kd.int .i64) 3 w56 w.heap.size (fun k_ => (w.heap.size ≤ k_)) v305 y304) := ⟨h0_⟩
                  have n1_ : Aside0 (Kd.V (Kd.int .i64) 3 w56 w.heap.size (fun k_ => (P0_1_ k_ ∨ w.heap.size ≤ k_) ∧ some k_ ≠ (v305 : Value).ownBlock ∧ k_ ≠ gb300 ∧ k_ ≠ gb301) (.slice A0_1 l0_1.length c0_1) l0_1) := ⟨h1_⟩
                  have n2_ : Aside0 (w56.heap[gb300]? = some (.cells #[.int .i64 a0_0, .slice A0_1 l0_1.length c0_1] 27 (0, 0))) := ⟨h2_⟩
                  have n3_ : Aside0 (w56.heap[gb301]? = some (.cells #[.int .i64 a1_0, .int .i64 a1_1] 33 (0, 0))) := ⟨h3_⟩
                  have n4_ : Aside0 (Below w.heap.size w w56) := ⟨h4_⟩
                  clear HO_301001
                  clear BK300
                  clear BK301
                  clear HB
                  clear h0_ h1_ h2_ h3_ h4_
                  have HO306 := n0_
                  have HO_301001 := n1_
                  have BK300 := n2_
                  have BK301 := n3_
                  have HB := n4_
                  clear n0_ n1_ n2_ n3_ n4_
                  have hHeld : w56.cell? ⟨gb300, 0, none⟩ = some (.int .i64 a0_0) ∧ w56.cell? ⟨gb300, 1, none⟩ = some (.slice A0_1 l0_1.length c0_1) := hS_
                  refine norm_ (a' := ?_) ?_ ?_
                  rotate_left
                  ·
                   simp only [putAll, Act.put, List.setIfInBounds_toArray, List.set_cons_zero, List.set_cons_succ]
                   rfl
                  refine two_ (i := 5) (j := 8) (Ni := some 21) (Nj := some 6) q8_48 q8_47 rfl rfl rfl rfl (two_of HT_.out (by kernel_rfl)) (by decide) (by decide) (fun K hK => ?_) (fun K hK => ?_)
                  ·
                   skip
                   refine Kd.R_lit_step (Kd.int .i64) _ 3 ?hg (N := 21) ?hd (xs := ([0, 0] : List Int)) (inner := [.int .i64 0, .int .i64 0]) (ok := fun _ => True) (okp := fun _ => True) ?hr ?hp (fun _ hk => hk) trivial (Below.refl _ _) (Nat.le_refl _) (by simp) ?_; (case hd => rfl); (case hg => rfl); (case hr => first | (go_simp; done) | (go_simp; rfl)); (case hp => exact (Reps.one (show Kd.M (Kd.int .i64) _ _ _ 0 [.int .i64 0] from rfl) (Reps.one (show Kd.M (Kd.int .i64) _ _ _ 0 [.int .i64 0] from rfl) (Reps.none _ _))))
                   intro v308 w57 ho58 hb hg_ hnew_
                   clear hg_ hnew_
                   (first | rw [← Ny307.out] at ho58 | (simp only [Int.reduceToNat] at ho58; rw [← Ny307.out] at ho58))
                   have n0_ := Aside0.mk (Kd.V_elder' (Kd.vk HO_301001) (Kd.R_base ho58) hb)
                   have n1_ := Aside0.mk (Kd.R_elder' (Kd.rk HO306) (Kd.R_base ho58) hb)
                   have n2_ := Aside0.mk (Kd.R_lower (Kd.R_new' (Kd.R_newM (M := fun k_ => (w.heap.size ≤ k_)) ho58 (below_size (gw_ HB)) (fun k_ h_ => h_)) (Kd.R_lt (Kd.rk HO306))) (below_size (gw_ HB)))
                   have n3_ := Aside0.mk (blk_below (g := gb300) (bk BK300) hb)
                   have n4_ := Aside0.mk (blk_below (g := gb301) (bk BK301) hb)
                   have n5_ := Aside0.mk (below_step (gw_ HB) hb)
                   clear HO_301001
                   clear HO306
                   clear BK300
                   clear BK301
                   clear HB
                   have HO_301001 := n0_
                   have HO306 := n1_
                   have HO309 := n2_
                   have BK300 := n3_
                   have BK301 := n4_
                   have HB := n5_
                   clear n0_ n1_ n2_ n3_ n4_ n5_
                   clear hb ho58
                   refine hK.out _ _ ⟨(blk_cell BK300.out 0).trans rfl, (blk_cell BK300.out 1).trans rfl⟩ (fun hHeld => ?_)
                   clear hK K
                   refine norm_ (a' := ?_) ?_ ?_
                   rotate_left
                   ·
                    show Act.put _ (some 21) _ = _
                    simp only [Act.put, List.setIfInBounds_toArray, List.set_cons_zero, List.set_cons_succ, i64_w, i32_w]
                    rfl
                   exact norm_ (by first | (simp only [putAll, Act.put, List.setIfInBounds_toArray, List.set_cons_zero, List.set_cons_succ]; done) | (simp only [putAll, Act.put, List.setIfInBounds_toArray, List.set_cons_zero, List.set_cons_succ]; rfl)) (hJ4_5 (v305, v308) _ ⟨hHeld, (Kd.rk HO306), (by (with_reducible repeat (first | apply Kd.R_alloc | apply Kd.R_drewN | apply Kd.R_drew)); exact Kd.R_mono HO309.out (fun _ hk => ⟨hk.1.1, hk.2⟩)), (by (with_reducible repeat (first | apply Kd.V_alloc | apply Kd.V_drewN | apply Kd.V_drew)); exact Kd.V_mono HO_301001.out (fun _ hk => ⟨hk.1.1, ⟨hk.1.2.1, ⟨hk.2, ⟨hk.1.2.2.1, hk.1.2.2.2⟩⟩⟩⟩)), (bk BK300), (bk BK301), (gw_ HB)⟩)
                  ·
                   skip
                   refine box_step ?hg (N := 6) ?hd (cs := #[.int .i64 0, .slice none 0 0]) (t := 27) ?hr ?_; (case hd => rfl); (case hg => rfl); (case hr => first | (go_simp; done) | (go_simp; rfl))
                   intro gb313 hg w57 hbox hb
                   have n0_ := Aside0.mk (Kd.V_below (Kd.V_elderB (Kd.vk HO_301001) gb313 (Nat.le_of_eq hg.symm)) hb)
                   have n1_ := Aside0.mk (Kd.R_below (Kd.rk HO306) hb)
                   have n2_ := Aside0.mk (blk_below (g := gb300) (bk BK300) hb)
                   have n3_ := Aside0.mk (blk_below (g := gb301) (bk BK301) hb)
                   have n4_ := Aside0.mk (below_step (gw_ HB) hb)
                   have n5_ := Aside0.mk (hbox)
                   have n6_ := Aside0.mk ((by rw [hg]; exact (below_size (gw_ HB)) : w.heap.size ≤ gb313))
                   have n7_ := Aside0.mk ((by rw [hg]; exact (below_size (gw_ HB)) : w.heap.size ≤ gb313))
                   have n8_ := Aside0.mk ((by rw [hg]; exact Nat.ne_of_lt (blk_lt (g := gb300) (bk BK300)) : gb300 ≠ gb313))
                   have n9_ := Aside0.mk ((by rw [hg]; exact Nat.ne_of_gt (blk_lt (g := gb300) (bk BK300)) : gb313 ≠ gb300))
                   have n10_ := Aside0.mk ((by rw [hg]; exact Nat.ne_of_lt (blk_lt (g := gb301) (bk BK301)) : gb301 ≠ gb313))
                   have n11_ := Aside0.mk ((by rw [hg]; exact Nat.ne_of_gt (blk_lt (g := gb301) (bk BK301)) : gb313 ≠ gb301))
                   clear HO_301001
                   clear HO306
                   clear BK300
                   clear BK301
                   clear HB
                   have HO_301001 := n0_
                   have HO306 := n1_
                   have BK300 := n2_
                   have BK301 := n3_
                   have HB := n4_
                   have BK313 := n5_
                   have GW313 := n6_
                   have GE313 := n7_
                   have NB300_313 := n8_
                   have NB313_300 := n9_
                   have NB301_313 := n10_
                   have NB313_301 := n11_
                   clear n0_ n1_ n2_ n3_ n4_ n5_ n6_ n7_ n8_ n9_ n10_ n11_
                   clear hb hbox hg
                   refine hK.out _ _ ⟨(blk_cell BK300.out 0).trans rfl, (blk_cell BK300.out 1).trans rfl⟩ (fun hHeld => ?_)
                   clear hK K
                   refine norm_ (a' := ?_) ?_ ?_
                   rotate_left
                   ·
                    show Act.put _ (some 6) _ = _
                    simp only [Act.put, List.setIfInBounds_toArray, List.set_cons_zero, List.set_cons_succ, i64_w, i32_w]
                    rfl
                   exact norm_ (by first | (simp only [putAll, Act.put, List.setIfInBounds_toArray, List.set_cons_zero, List.set_cons_succ]; done) | (simp only [putAll, Act.put, List.setIfInBounds_toArray, List.set_cons_zero, List.set_cons_succ]; rfl)) (hJ4_8 (v305, gb313) _ ⟨hHeld, (Kd.rk HO306), (by (with_reducible repeat (first | apply Kd.V_alloc | apply Kd.V_drewN | apply Kd.V_drew)); exact Kd.V_mono HO_301001.out (fun _ hk => ⟨hk.1.1, ⟨hk.1.2.1, ⟨hk.1.2.2.1, ⟨hk.1.2.2.2, hk.2⟩⟩⟩⟩)), (bk BK300), (bk BK301), (bk BK313), GW313.out, GE313.out, NB300_313.out, NB313_300.out, NB301_313.out, NB313_301.out, (gw_ HB)⟩)
                ·
                 skip
                 rintro ⟨v308, gb313⟩ w58 ⟨hS_, h0_, h1_, h2_, h3_, h4_, h5_, h6_, h7_, h8_, h9_, h10_, h11_⟩
                 have n0_ : Aside0 (Kd.R (Kd.int .i64) 3 w58 w.heap.size (fun k_ => (w.heap.size ≤ k_)) v308 y307) := ⟨h0_⟩
                 have n1_ : Aside0 (Kd.V (Kd.int .i64) 3 w58 w.heap.size (fun k_ => (P0_1_ k_ ∨ w.heap.size ≤ k_) ∧ some k_ ≠ (v308 : Value).ownBlock ∧ k_ ≠ gb300 ∧ k_ ≠ gb301 ∧ k_ ≠ gb313) (.slice A0_1 l0_1.length c0_1) l0_1) := ⟨h1_⟩
                 have n2_ : Aside0 (w58.heap[gb300]? = some (.cells #[.int .i64 a0_0, .slice A0_1 l0_1.length c0_1] 27 (0, 0))) := ⟨h2_⟩
                 have n3_ : Aside0 (w58.heap[gb301]? = some (.cells #[.int .i64 a1_0, .int .i64 a1_1] 33 (0, 0))) := ⟨h3_⟩
                 have n4_ : Aside0 (w58.heap[gb313]? = some (.cells #[.int .i64 0, .slice none 0 0] 27 (0, 0))) := ⟨h4_⟩
                 have n5_ : Aside0 (w.heap.size ≤ gb313) := ⟨h5_⟩
                 have n6_ : Aside0 (w.heap.size ≤ gb313) := ⟨h6_⟩
                 have n7_ : Aside0 (gb300 ≠ gb313) := ⟨h7_⟩
                 have n8_ : Aside0 (gb313 ≠ gb300) := ⟨h8_⟩
                 have n9_ : Aside0 (gb301 ≠ gb313) := ⟨h9_⟩
                 have n10_ : Aside0 (gb313 ≠ gb301) := ⟨h10_⟩
                 have n11_ : Aside0 (Below w.heap.size w w58) := ⟨h11_⟩
                 clear HO_301001
                 clear BK300
                 clear BK301
                 clear HB
                 clear h0_ h1_ h2_ h3_ h4_ h5_ h6_ h7_ h8_ h9_ h10_ h11_
                 have HO309 := n0_
                 have HO_301001 := n1_
                 have BK300 := n2_
                 have BK301 := n3_
                 have BK313 := n4_
                 have GW313 := n5_
                 have GE313 := n6_
                 have NB300_313 := n7_
                 have NB313_300 := n8_
                 have NB301_313 := n9_
                 have NB313_301 := n10_
                 have HB := n11_
                 clear n0_ n1_ n2_ n3_ n4_ n5_ n6_ n7_ n8_ n9_ n10_ n11_
                 have hHeld : w58.cell? ⟨gb300, 0, none⟩ = some (.int .i64 a0_0) ∧ w58.cell? ⟨gb300, 1, none⟩ = some (.slice A0_1 l0_1.length c0_1) := hS_
                 refine norm_ (a' := ?_) ?_ ?_
                 rotate_left
                 ·
                  simp only [putAll, Act.put, List.setIfInBounds_toArray, List.set_cons_zero, List.set_cons_succ]
                  rfl
                 refine one_ (i := 4) (N := some 20) q8_49 rfl rfl (one_of HT_.out (by kernel_rfl)) (by decide) (fun K hK => ?_)
                 refine Kd.R_append_rows_step (Kd.int .i64) (w0 := w) w.heap.size (by rfl) (.const (.slice none 0 0)) (.tmp 19) 25 3 (.int .i64 0) 8 rfl Try.underlying25 info3 rfl (by decide) (by omega) (.slice none 0 0) ([] : List Int) l0_1 _ _ _ (fun k_ => (w.heap.size ≤ k_) ∧ some k_ ≠ (v308 : Value).ownBlock) (fun _ => False) rfl rfl ?aO ?aR (fun _ _ h => h) (fun _ h => h.elim) ?aF ?aB ?aS ?aL ?_
                 (case aR => repeat (first | exact (Kd.V_reads' HO_301001.out).2.2 | (with_reducible refine Kd.C_alloc ?_ _) | (with_reducible refine Kd.C_drewN ?_ _) | (with_reducible refine Kd.C_drew ?_)))
                 (case aB => exact (gw_ HB))
                 (case aF => exact (fun k_ hk => ⟨(Nat.le_trans (below_size (gw_ HB)) hk), Kd.fresh' (Kd.R_lt (Kd.rk HO309)) k_ hk⟩))
                 (case aO => exact ((Kd.R_nil _ _ _ _ (fun k_ => (w.heap.size ≤ k_) ∧ some k_ ≠ (v308 : Value).ownBlock))))
                 (case aS => exact (below_size (gw_ HB)))
                 (case aL => have := LMc14.out; omega)
                 intro v305 w59 ho hb hg hat
                 rw [← Ny304.out] at ho
                 have n0_ := Aside0.mk (Kd.V_afterv (Kd.V_apart_nil (Kd.vk HO_301001)) hg hat)
                 have n1_ := Aside0.mk (blk_grown (g := gb300) (bk BK300) hg (by simp [Value.ownBlock]))
                 have n2_ := Aside0.mk (blk_grown (g := gb301) (bk BK301) hg (by simp [Value.ownBlock]))
                 have n3_ := Aside0.mk (Kd.R_after (Kd.R_apart_nil (Kd.rk HO309)) hg hat)
                 have n4_ := Aside0.mk (blk_grown (g := gb313) (bk BK313) hg (by simp [Value.ownBlock]))
                 have n5_ := Aside0.mk (hb)
                 have n6_ := Aside0.mk (ho)
                 clear HO_301001
                 clear BK300
                 clear BK301
                 clear HO309
                 clear BK313
                 clear HB
                 have HO_301001 := n0_
                 have BK300 := n1_
                 have BK301 := n2_
                 have HO309 := n3_
                 have BK313 := n4_
                 have HB := n5_
                 have HO306 := n6_
                 clear n0_ n1_ n2_ n3_ n4_ n5_ n6_
                 clear ho hb hg hat
                 refine hK.out _ _ ⟨(blk_cell BK300.out 0).trans rfl, (blk_cell BK300.out 1).trans rfl⟩ (fun hHeld => ?_)
                 clear hK K
                 refine norm_ (a' := ?_) ?_ ?_
                 rotate_left
                 ·
                  show Act.put _ (some 20) _ = _
                  simp only [Act.put, List.setIfInBounds_toArray, List.set_cons_zero, List.set_cons_succ, i64_w, i32_w]
                  rfl
                 exact norm_ (by first | (simp only [putAll, Act.put, List.setIfInBounds_toArray, List.set_cons_zero, List.set_cons_succ]; done) | (simp only [putAll, Act.put, List.setIfInBounds_toArray, List.set_cons_zero, List.set_cons_succ]; rfl)) (hJ4_5_8 (v305, v308, gb313) _ ⟨hHeld, (Kd.rk HO306), (Kd.rk HO309), (by (with_reducible repeat (first | apply Kd.V_alloc | apply Kd.V_drewN | apply Kd.V_drew)); exact Kd.V_mono HO_301001.out (fun _ hk => ⟨hk.1.1, ⟨hk.2, ⟨hk.1.2.1, ⟨hk.1.2.2.1, ⟨hk.1.2.2.2.1, hk.1.2.2.2.2⟩⟩⟩⟩⟩)), (bk BK300), (bk BK301), (bk BK313), GW313.out, GE313.out, NB300_313.out, NB313_300.out, NB301_313.out, NB313_301.out, (gw_ HB)⟩)
               ·
                skip
                rintro ⟨v305, gb313⟩ w57 ⟨hS_, h0_, h1_, h2_, h3_, h4_, h5_, h6_, h7_, h8_, h9_, h10_, h11_⟩
                have n0_ : Aside0 (Kd.R (Kd.int .i64) 3 w57 w.heap.size (fun k_ => (w.heap.size ≤ k_)) v305 y304) := ⟨h0_⟩
                have n1_ : Aside0 (Kd.V (Kd.int .i64) 3 w57 w.heap.size (fun k_ => (P0_1_ k_ ∨ w.heap.size ≤ k_) ∧ some k_ ≠ (v305 : Value).ownBlock ∧ k_ ≠ gb300 ∧ k_ ≠ gb301 ∧ k_ ≠ gb313) (.slice A0_1 l0_1.length c0_1) l0_1) := ⟨h1_⟩
                have n2_ : Aside0 (w57.heap[gb300]? = some (.cells #[.int .i64 a0_0, .slice A0_1 l0_1.length c0_1] 27 (0, 0))) := ⟨h2_⟩
                have n3_ : Aside0 (w57.heap[gb301]? = some (.cells #[.int .i64 a1_0, .int .i64 a1_1] 33 (0, 0))) := ⟨h3_⟩
                have n4_ : Aside0 (w57.heap[gb313]? = some (.cells #[.int .i64 0, .slice none 0 0] 27 (0, 0))) := ⟨h4_⟩
                have n5_ : Aside0 (w.heap.size ≤ gb313) := ⟨h5_⟩
                have n6_ : Aside0 (w.heap.size ≤ gb313) := ⟨h6_⟩
                have n7_ : Aside0 (gb300 ≠ gb313) := ⟨h7_⟩
                have n8_ : Aside0 (gb313 ≠ gb300) := ⟨h8_⟩
                have n9_ : Aside0 (gb301 ≠ gb313) := ⟨h9_⟩
                have n10_ : Aside0 (gb313 ≠ gb301) := ⟨h10_⟩
                have n11_ : Aside0 (Below w.heap.size w w57) := ⟨h11_⟩
                clear HO_301001
                clear BK300
                clear BK301
                clear HB
                clear h0_ h1_ h2_ h3_ h4_ h5_ h6_ h7_ h8_ h9_ h10_ h11_
                have HO306 := n0_
                have HO_301001 := n1_
                have BK300 := n2_
                have BK301 := n3_
                have BK313 := n4_
                have GW313 := n5_
                have GE313 := n6_
                have NB300_313 := n7_
                have NB313_300 := n8_
                have NB301_313 := n9_
                have NB313_301 := n10_
                have HB := n11_
                clear n0_ n1_ n2_ n3_ n4_ n5_ n6_ n7_ n8_ n9_ n10_ n11_
                have hHeld : w57.cell? ⟨gb300, 0, none⟩ = some (.int .i64 a0_0) ∧ w57.cell? ⟨gb300, 1, none⟩ = some (.slice A0_1 l0_1.length c0_1) := hS_
                refine norm_ (a' := ?_) ?_ ?_
                rotate_left
                ·
                 simp only [putAll, Act.put, List.setIfInBounds_toArray, List.set_cons_zero, List.set_cons_succ]
                 rfl
                refine one_ (i := 5) (N := some 21) q8_49 rfl rfl (one_of HT_.out (by kernel_rfl)) (by decide) (fun K hK => ?_)
                refine Kd.R_lit_step (Kd.int .i64) _ 3 ?hg (N := 21) ?hd (xs := ([0, 0] : List Int)) (inner := [.int .i64 0, .int .i64 0]) (ok := fun _ => True) (okp := fun _ => True) ?hr ?hp (fun _ hk => hk) trivial (Below.refl _ _) (Nat.le_refl _) (by simp) ?_; (case hd => rfl); (case hg => rfl); (case hr => first | (go_simp; done) | (go_simp; rfl)); (case hp => exact (Reps.one (show Kd.M (Kd.int .i64) _ _ _ 0 [.int .i64 0] from rfl) (Reps.one (show Kd.M (Kd.int .i64) _ _ _ 0 [.int .i64 0] from rfl) (Reps.none _ _))))
                intro v308 w58 ho59 hb hg_ hnew_
                clear hg_ hnew_
                (first | rw [← Ny307.out] at ho59 | (simp only [Int.reduceToNat] at ho59; rw [← Ny307.out] at ho59))
                have n0_ := Aside0.mk (Kd.V_elder' (Kd.vk HO_301001) (Kd.R_base ho59) hb)
                have n1_ := Aside0.mk (Kd.R_elder' (Kd.rk HO306) (Kd.R_base ho59) hb)
                have n2_ := Aside0.mk (Kd.R_lower (Kd.R_new' (Kd.R_newM (M := fun k_ => (w.heap.size ≤ k_)) ho59 (below_size (gw_ HB)) (fun k_ h_ => h_)) (Kd.R_lt (Kd.rk HO306))) (below_size (gw_ HB)))
                have n3_ := Aside0.mk (blk_below (g := gb300) (bk BK300) hb)
                have n4_ := Aside0.mk (blk_below (g := gb301) (bk BK301) hb)
                have n5_ := Aside0.mk (blk_below (g := gb313) (bk BK313) hb)
                have n6_ := Aside0.mk (below_step (gw_ HB) hb)
                clear HO_301001
                clear HO306
                clear BK300
                clear BK301
                clear BK313
                clear HB
                have HO_301001 := n0_
                have HO306 := n1_
                have HO309 := n2_
                have BK300 := n3_
                have BK301 := n4_
                have BK313 := n5_
                have HB := n6_
                clear n0_ n1_ n2_ n3_ n4_ n5_ n6_
                clear hb ho59
                refine hK.out _ _ ⟨(blk_cell BK300.out 0).trans rfl, (blk_cell BK300.out 1).trans rfl⟩ (fun hHeld => ?_)
                clear hK K
                refine norm_ (a' := ?_) ?_ ?_
                rotate_left
                ·
                 show Act.put _ (some 21) _ = _
                 simp only [Act.put, List.setIfInBounds_toArray, List.set_cons_zero, List.set_cons_succ, i64_w, i32_w]
                 rfl
                exact norm_ (by first | (simp only [putAll, Act.put, List.setIfInBounds_toArray, List.set_cons_zero, List.set_cons_succ]; done) | (simp only [putAll, Act.put, List.setIfInBounds_toArray, List.set_cons_zero, List.set_cons_succ]; rfl)) (hJ4_5_8 (v305, v308, gb313) _ ⟨hHeld, (Kd.rk HO306), (by (with_reducible repeat (first | apply Kd.R_alloc | apply Kd.R_drewN | apply Kd.R_drew)); exact Kd.R_mono HO309.out (fun _ hk => ⟨hk.1.1, hk.2⟩)), (by (with_reducible repeat (first | apply Kd.V_alloc | apply Kd.V_drewN | apply Kd.V_drew)); exact Kd.V_mono HO_301001.out (fun _ hk => ⟨hk.1.1, ⟨hk.1.2.1, ⟨hk.2, ⟨hk.1.2.2.1, ⟨hk.1.2.2.2.1, hk.1.2.2.2.2⟩⟩⟩⟩⟩)), (bk BK300), (bk BK301), (bk BK313), GW313.out, GE313.out, NB300_313.out, NB313_300.out, NB301_313.out, NB313_301.out, (gw_ HB)⟩)
              ·
               skip
               rintro ⟨v305, v308⟩ w58 ⟨hS_, h0_, h1_, h2_, h3_, h4_, h5_⟩
               have n0_ : Aside0 (Kd.R (Kd.int .i64) 3 w58 w.heap.size (fun k_ => (w.heap.size ≤ k_) ∧ some k_ ≠ (v308 : Value).ownBlock) v305 y304) := ⟨h0_⟩
               have n1_ : Aside0 (Kd.R (Kd.int .i64) 3 w58 w.heap.size (fun k_ => (w.heap.size ≤ k_) ∧ some k_ ≠ (v305 : Value).ownBlock) v308 y307) := ⟨h1_⟩
               have n2_ : Aside0 (Kd.V (Kd.int .i64) 3 w58 w.heap.size (fun k_ => (P0_1_ k_ ∨ w.heap.size ≤ k_) ∧ some k_ ≠ (v305 : Value).ownBlock ∧ some k_ ≠ (v308 : Value).ownBlock ∧ k_ ≠ gb300 ∧ k_ ≠ gb301) (.slice A0_1 l0_1.length c0_1) l0_1) := ⟨h2_⟩
               have n3_ : Aside0 (w58.heap[gb300]? = some (.cells #[.int .i64 a0_0, .slice A0_1 l0_1.length c0_1] 27 (0, 0))) := ⟨h3_⟩
               have n4_ : Aside0 (w58.heap[gb301]? = some (.cells #[.int .i64 a1_0, .int .i64 a1_1] 33 (0, 0))) := ⟨h4_⟩
               have n5_ : Aside0 (Below w.heap.size w w58) := ⟨h5_⟩
               clear HO_301001
               clear BK300
               clear BK301
               clear HB
               clear h0_ h1_ h2_ h3_ h4_ h5_
               have HO306 := n0_
               have HO309 := n1_
               have HO_301001 := n2_
               have BK300 := n3_
               have BK301 := n4_
               have HB := n5_
               clear n0_ n1_ n2_ n3_ n4_ n5_
               have hHeld : w58.cell? ⟨gb300, 0, none⟩ = some (.int .i64 a0_0) ∧ w58.cell? ⟨gb300, 1, none⟩ = some (.slice A0_1 l0_1.length c0_1) := hS_
               obtain ⟨Ao60, co60, eo60⟩ := Kd.R_slice HO309.out
               (first | subst eo60 | (injection eo60 with f1_ f2_ f3_; have f4_ := f1_.symm; have f5_ := f3_.symm; clear f1_ f2_ f3_; subst f4_; subst f5_))
               refine norm_ (a' := ?_) ?_ ?_
               rotate_left
               ·
                simp only [putAll, Act.put, List.setIfInBounds_toArray, List.set_cons_zero, List.set_cons_succ]
                rfl
               refine two_ (i := 6) (j := 8) (Ni := some 22) (Nj := some 6) q8_50 q8_49 rfl rfl rfl rfl (two_of HT_.out (by kernel_rfl)) (by decide) (by decide) (fun K hK => ?_) (fun K hK => ?_)
               ·
                skip
                refine Kd.R_append_rows_step (Kd.int .i64) (w0 := w) w.heap.size (by rfl) (.tmp 20) (.tmp 21) 25 3 (.int .i64 0) 8 rfl Try.underlying25 info3 rfl (by decide) (by omega) v305 y304 y307 _ _ _ (fun k_ => (w.heap.size ≤ k_) ∧ some k_ ≠ (.slice Ao60 y307.length co60 : Value).ownBlock) (fun _ => False) rfl rfl ?aO ?aR (fun _ _ h => h) (fun _ h => h.elim) ?aF ?aB ?aS ?aL ?_
                (case aR => repeat (first | exact (Kd.R_reads' HO309.out).2.2 | (with_reducible refine Kd.C_alloc ?_ _) | (with_reducible refine Kd.C_drewN ?_ _) | (with_reducible refine Kd.C_drew ?_)))
                (case aB => exact (gw_ HB))
                (case aF => exact (fun k_ hk => ⟨(Nat.le_trans (below_size (gw_ HB)) hk), Kd.fresh' (Kd.R_lt (Kd.rk HO309)) k_ hk⟩))
                (case aO => exact (Kd.rk HO306))
                (case aS => exact (below_size (gw_ HB)))
                (case aL => have := LMc15.out; omega)
                intro v311 w59 ho hb hg hat
                rw [← Ny310.out] at ho
                have n0_ := Aside0.mk (Kd.V_afterv (ok := (fun k_ => (P0_1_ k_ ∨ w.heap.size ≤ k_) ∧ some k_ ≠ (.slice Ao60 y307.length co60 : Value).ownBlock ∧ k_ ≠ gb300 ∧ k_ ≠ gb301)) (by (with_reducible repeat (first | apply Kd.V_alloc | apply Kd.V_drewN | apply Kd.V_drew)); exact Kd.V_mono HO_301001.out (fun _ hk => ⟨⟨hk.1, ⟨hk.2.2.1, ⟨hk.2.2.2.1, hk.2.2.2.2⟩⟩⟩, hk.2.1⟩)) hg hat)
                have n1_ := Aside0.mk (blk_grown (g := gb300) (bk BK300) hg (Kd.R_ne HO306.out BK300.out (by decide)))
                have n2_ := Aside0.mk (blk_grown (g := gb301) (bk BK301) hg (Kd.R_ne HO306.out BK301.out (by decide)))
                have n3_ := Aside0.mk (Kd.R_after (ok := (fun k_ => (w.heap.size ≤ k_))) (Kd.rk HO309) hg hat)
                have n4_ := Aside0.mk (hb)
                have n5_ := Aside0.mk (ho)
                clear HO_301001
                clear BK300
                clear BK301
                clear HO309
                clear HB
                clear HO306
                have HO_301001 := n0_
                have BK300 := n1_
                have BK301 := n2_
                have HO309 := n3_
                have HB := n4_
                have HO312 := n5_
                clear n0_ n1_ n2_ n3_ n4_ n5_
                clear ho hb hg hat
                obtain ⟨Ao61, co61, eo61⟩ := Kd.R_slice HO312.out
                (first | subst eo61 | (injection eo61 with f1_ f2_ f3_; have f4_ := f1_.symm; have f5_ := f3_.symm; clear f1_ f2_ f3_; subst f4_; subst f5_))
                refine hK.out _ _ ⟨(blk_cell BK300.out 0).trans rfl, (blk_cell BK300.out 1).trans rfl⟩ (fun hHeld => ?_)
                clear hK K
                refine norm_ (a' := ?_) ?_ ?_
                rotate_left
                ·
                 show Act.put _ (some 22) _ = _
                 simp only [Act.put, List.setIfInBounds_toArray, List.set_cons_zero, List.set_cons_succ, i64_w, i32_w]
                 rfl
                refine pure_ (i := 7) (N := some 23) (v := ?_) (a' := ?_) q8_52 rfl rfl (any_of HT_.out (by kernel_rfl)) (fun _ _ _ h => h) (Or.inl ⟨by rfl, ?_⟩) ?_ ?_
                rotate_left
                ·
                 intro w'
                 go_simp
                 with_reducible rfl
                rotate_left
                ·
                 simp only [Act.put, List.setIfInBounds_toArray, List.set_cons_zero, List.set_cons_succ, i64_w, i32_w]
                 rfl
                exact norm_ (by first | (simp only [putAll, Act.put, List.setIfInBounds_toArray, List.set_cons_zero, List.set_cons_succ]; done) | (simp only [putAll, Act.put, List.setIfInBounds_toArray, List.set_cons_zero, List.set_cons_succ]; rfl)) (hJ4_5_6 (v305, .slice Ao60 y307.length co60, .slice Ao61 y310.length co61) _ ⟨hHeld, (Kd.rk HO309), (Kd.rk HO312), (by (with_reducible repeat (first | apply Kd.V_alloc | apply Kd.V_drewN | apply Kd.V_drew)); exact Kd.V_mono HO_301001.out (fun _ hk => ⟨hk.1.1, ⟨hk.1.2.1, ⟨hk.2, ⟨hk.1.2.2.1, hk.1.2.2.2⟩⟩⟩⟩)), (bk BK300), (bk BK301), (gw_ HB)⟩)
               ·
                skip
                refine box_step ?hg (N := 6) ?hd (cs := #[.int .i64 0, .slice none 0 0]) (t := 27) ?hr ?_; (case hd => rfl); (case hg => rfl); (case hr => first | (go_simp; done) | (go_simp; rfl))
                intro gb313 hg w59 hbox hb
                have n0_ := Aside0.mk (Kd.V_below (Kd.V_elderB (Kd.vk HO_301001) gb313 (Nat.le_of_eq hg.symm)) hb)
                have n1_ := Aside0.mk (Kd.R_below (Kd.rk HO306) hb)
                have n2_ := Aside0.mk (Kd.R_below (Kd.rk HO309) hb)
                have n3_ := Aside0.mk (blk_below (g := gb300) (bk BK300) hb)
                have n4_ := Aside0.mk (blk_below (g := gb301) (bk BK301) hb)
                have n5_ := Aside0.mk (below_step (gw_ HB) hb)
                have n6_ := Aside0.mk (hbox)
                have n7_ := Aside0.mk ((by rw [hg]; exact (below_size (gw_ HB)) : w.heap.size ≤ gb313))
                have n8_ := Aside0.mk ((by rw [hg]; exact (below_size (gw_ HB)) : w.heap.size ≤ gb313))
                have n9_ := Aside0.mk ((by rw [hg]; exact Nat.ne_of_lt (blk_lt (g := gb300) (bk BK300)) : gb300 ≠ gb313))
                have n10_ := Aside0.mk ((by rw [hg]; exact Nat.ne_of_gt (blk_lt (g := gb300) (bk BK300)) : gb313 ≠ gb300))
                have n11_ := Aside0.mk ((by rw [hg]; exact Nat.ne_of_lt (blk_lt (g := gb301) (bk BK301)) : gb301 ≠ gb313))
                have n12_ := Aside0.mk ((by rw [hg]; exact Nat.ne_of_gt (blk_lt (g := gb301) (bk BK301)) : gb313 ≠ gb301))
                clear HO_301001
                clear HO306
                clear HO309
                clear BK300
                clear BK301
                clear HB
                have HO_301001 := n0_
                have HO306 := n1_
                have HO309 := n2_
                have BK300 := n3_
                have BK301 := n4_
                have HB := n5_
                have BK313 := n6_
                have GW313 := n7_
                have GE313 := n8_
                have NB300_313 := n9_
                have NB313_300 := n10_
                have NB301_313 := n11_
                have NB313_301 := n12_
                clear n0_ n1_ n2_ n3_ n4_ n5_ n6_ n7_ n8_ n9_ n10_ n11_ n12_
                clear hb hbox hg
                refine hK.out _ _ ⟨(blk_cell BK300.out 0).trans rfl, (blk_cell BK300.out 1).trans rfl⟩ (fun hHeld => ?_)
                clear hK K
                refine norm_ (a' := ?_) ?_ ?_
                rotate_left
                ·
                 show Act.put _ (some 6) _ = _
                 simp only [Act.put, List.setIfInBounds_toArray, List.set_cons_zero, List.set_cons_succ, i64_w, i32_w]
                 rfl
                exact norm_ (by first | (simp only [putAll, Act.put, List.setIfInBounds_toArray, List.set_cons_zero, List.set_cons_succ]; done) | (simp only [putAll, Act.put, List.setIfInBounds_toArray, List.set_cons_zero, List.set_cons_succ]; rfl)) (hJ4_5_8 (v305, _, gb313) _ ⟨hHeld, (Kd.rk HO306), (Kd.rk HO309), (by (with_reducible repeat (first | apply Kd.V_alloc | apply Kd.V_drewN | apply Kd.V_drew)); exact Kd.V_mono HO_301001.out (fun _ hk => ⟨hk.1.1, ⟨hk.1.2.1, ⟨hk.1.2.2.1, ⟨hk.1.2.2.2.1, ⟨hk.1.2.2.2.2, hk.2⟩⟩⟩⟩⟩)), (bk BK300), (bk BK301), (bk BK313), GW313.out, GE313.out, NB300_313.out, NB313_300.out, NB301_313.out, NB313_301.out, (gw_ HB)⟩)
             ·
              skip
              rintro ⟨v305, v308, gb313⟩ w59 ⟨hS_, h0_, h1_, h2_, h3_, h4_, h5_, h6_, h7_, h8_, h9_, h10_, h11_, h12_⟩
              have n0_ : Aside0 (Kd.R (Kd.int .i64) 3 w59 w.heap.size (fun k_ => (w.heap.size ≤ k_) ∧ some k_ ≠ (v308 : Value).ownBlock) v305 y304) := ⟨h0_⟩
              have n1_ : Aside0 (Kd.R (Kd.int .i64) 3 w59 w.heap.size (fun k_ => (w.heap.size ≤ k_) ∧ some k_ ≠ (v305 : Value).ownBlock) v308 y307) := ⟨h1_⟩
              have n2_ : Aside0 (Kd.V (Kd.int .i64) 3 w59 w.heap.size (fun k_ => (P0_1_ k_ ∨ w.heap.size ≤ k_) ∧ some k_ ≠ (v305 : Value).ownBlock ∧ some k_ ≠ (v308 : Value).ownBlock ∧ k_ ≠ gb300 ∧ k_ ≠ gb301 ∧ k_ ≠ gb313) (.slice A0_1 l0_1.length c0_1) l0_1) := ⟨h2_⟩
              have n3_ : Aside0 (w59.heap[gb300]? = some (.cells #[.int .i64 a0_0, .slice A0_1 l0_1.length c0_1] 27 (0, 0))) := ⟨h3_⟩
              have n4_ : Aside0 (w59.heap[gb301]? = some (.cells #[.int .i64 a1_0, .int .i64 a1_1] 33 (0, 0))) := ⟨h4_⟩
              have n5_ : Aside0 (w59.heap[gb313]? = some (.cells #[.int .i64 0, .slice none 0 0] 27 (0, 0))) := ⟨h5_⟩
              have n6_ : Aside0 (w.heap.size ≤ gb313) := ⟨h6_⟩
              have n7_ : Aside0 (w.heap.size ≤ gb313) := ⟨h7_⟩
              have n8_ : Aside0 (gb300 ≠ gb313) := ⟨h8_⟩
              have n9_ : Aside0 (gb313 ≠ gb300) := ⟨h9_⟩
              have n10_ : Aside0 (gb301 ≠ gb313) := ⟨h10_⟩
              have n11_ : Aside0 (gb313 ≠ gb301) := ⟨h11_⟩
              have n12_ : Aside0 (Below w.heap.size w w59) := ⟨h12_⟩
              clear HO_301001
              clear BK300
              clear BK301
              clear HB
              clear h0_ h1_ h2_ h3_ h4_ h5_ h6_ h7_ h8_ h9_ h10_ h11_ h12_
              have HO306 := n0_
              have HO309 := n1_
              have HO_301001 := n2_
              have BK300 := n3_
              have BK301 := n4_
              have BK313 := n5_
              have GW313 := n6_
              have GE313 := n7_
              have NB300_313 := n8_
              have NB313_300 := n9_
              have NB301_313 := n10_
              have NB313_301 := n11_
              have HB := n12_
              clear n0_ n1_ n2_ n3_ n4_ n5_ n6_ n7_ n8_ n9_ n10_ n11_ n12_
              have hHeld : w59.cell? ⟨gb300, 0, none⟩ = some (.int .i64 a0_0) ∧ w59.cell? ⟨gb300, 1, none⟩ = some (.slice A0_1 l0_1.length c0_1) := hS_
              obtain ⟨Ao61, co61, eo61⟩ := Kd.R_slice HO309.out
              (first | subst eo61 | (injection eo61 with f1_ f2_ f3_; have f4_ := f1_.symm; have f5_ := f3_.symm; clear f1_ f2_ f3_; subst f4_; subst f5_))
              refine norm_ (a' := ?_) ?_ ?_
              rotate_left
              ·
               simp only [putAll, Act.put, List.setIfInBounds_toArray, List.set_cons_zero, List.set_cons_succ]
               rfl
              refine one_ (i := 6) (N := some 22) q8_51 rfl rfl (one_of HT_.out (by kernel_rfl)) (by decide) (fun K hK => ?_)
              refine Kd.R_append_rows_step (Kd.int .i64) (w0 := w) w.heap.size (by rfl) (.tmp 20) (.tmp 21) 25 3 (.int .i64 0) 8 rfl Try.underlying25 info3 rfl (by decide) (by omega) v305 y304 y307 _ _ _ (fun k_ => (w.heap.size ≤ k_) ∧ some k_ ≠ (.slice Ao61 y307.length co61 : Value).ownBlock) (fun _ => False) rfl rfl ?aO ?aR (fun _ _ h => h) (fun _ h => h.elim) ?aF ?aB ?aS ?aL ?_
              (case aR => repeat (first | exact (Kd.R_reads' HO309.out).2.2 | (with_reducible refine Kd.C_alloc ?_ _) | (with_reducible refine Kd.C_drewN ?_ _) | (with_reducible refine Kd.C_drew ?_)))
              (case aB => exact (gw_ HB))
              (case aF => exact (fun k_ hk => ⟨(Nat.le_trans (below_size (gw_ HB)) hk), Kd.fresh' (Kd.R_lt (Kd.rk HO309)) k_ hk⟩))
              (case aO => exact (Kd.rk HO306))
              (case aS => exact (below_size (gw_ HB)))
              (case aL => have := LMc15.out; omega)
              intro v311 w60 ho hb hg hat
              rw [← Ny310.out] at ho
              have n0_ := Aside0.mk (Kd.V_afterv (ok := (fun k_ => (P0_1_ k_ ∨ w.heap.size ≤ k_) ∧ some k_ ≠ (.slice Ao61 y307.length co61 : Value).ownBlock ∧ k_ ≠ gb300 ∧ k_ ≠ gb301 ∧ k_ ≠ gb313)) (by (with_reducible repeat (first | apply Kd.V_alloc | apply Kd.V_drewN | apply Kd.V_drew)); exact Kd.V_mono HO_301001.out (fun _ hk => ⟨⟨hk.1, ⟨hk.2.2.1, ⟨hk.2.2.2.1, ⟨hk.2.2.2.2.1, hk.2.2.2.2.2⟩⟩⟩⟩, hk.2.1⟩)) hg hat)
              have n1_ := Aside0.mk (blk_grown (g := gb300) (bk BK300) hg (Kd.R_ne HO306.out BK300.out (by decide)))
              have n2_ := Aside0.mk (blk_grown (g := gb301) (bk BK301) hg (Kd.R_ne HO306.out BK301.out (by decide)))
              have n3_ := Aside0.mk (Kd.R_after (ok := (fun k_ => (w.heap.size ≤ k_))) (Kd.rk HO309) hg hat)
              have n4_ := Aside0.mk (blk_grown (g := gb313) (bk BK313) hg (Kd.R_ne HO306.out BK313.out (by decide)))
              have n5_ := Aside0.mk (hb)
              have n6_ := Aside0.mk (ho)
              clear HO_301001
              clear BK300
              clear BK301
              clear HO309
              clear BK313
              clear HB
              clear HO306
              have HO_301001 := n0_
              have BK300 := n1_
              have BK301 := n2_
              have HO309 := n3_
              have BK313 := n4_
              have HB := n5_
              have HO312 := n6_
              clear n0_ n1_ n2_ n3_ n4_ n5_ n6_
              clear ho hb hg hat
              obtain ⟨Ao62, co62, eo62⟩ := Kd.R_slice HO312.out
              (first | subst eo62 | (injection eo62 with f1_ f2_ f3_; have f4_ := f1_.symm; have f5_ := f3_.symm; clear f1_ f2_ f3_; subst f4_; subst f5_))
              refine hK.out _ _ ⟨(blk_cell BK300.out 0).trans rfl, (blk_cell BK300.out 1).trans rfl⟩ (fun hHeld => ?_)
              clear hK K
              refine norm_ (a' := ?_) ?_ ?_
              rotate_left
              ·
               show Act.put _ (some 22) _ = _
               simp only [Act.put, List.setIfInBounds_toArray, List.set_cons_zero, List.set_cons_succ, i64_w, i32_w]
               rfl
              refine pure_ (i := 7) (N := some 23) (v := ?_) (a' := ?_) q8_53 rfl rfl (any_of HT_.out (by kernel_rfl)) (fun _ _ _ h => h) (Or.inl ⟨by rfl, ?_⟩) ?_ ?_
              rotate_left
              ·
               intro w'
               go_simp
               with_reducible rfl
              rotate_left
              ·
               simp only [Act.put, List.setIfInBounds_toArray, List.set_cons_zero, List.set_cons_succ, i64_w, i32_w]
               rfl
              exact norm_ (by first | (simp only [putAll, Act.put, List.setIfInBounds_toArray, List.set_cons_zero, List.set_cons_succ]; done) | (simp only [putAll, Act.put, List.setIfInBounds_toArray, List.set_cons_zero, List.set_cons_succ]; rfl)) (hJ4_5_6_8 (v305, .slice Ao61 y307.length co61, .slice Ao62 y310.length co62, gb313) _ ⟨hHeld, (Kd.rk HO309), (Kd.rk HO312), (by (with_reducible repeat (first | apply Kd.V_alloc | apply Kd.V_drewN | apply Kd.V_drew)); exact Kd.V_mono HO_301001.out (fun _ hk => ⟨hk.1.1, ⟨hk.1.2.1, ⟨hk.2, ⟨hk.1.2.2.1, ⟨hk.1.2.2.2.1, hk.1.2.2.2.2⟩⟩⟩⟩⟩)), (bk BK300), (bk BK301), (bk BK313), GW313.out, GE313.out, NB300_313.out, NB313_300.out, NB301_313.out, NB313_301.out, (gw_ HB)⟩)
            ·
             skip
             rintro ⟨v305, v308, v311⟩ w61 ⟨hS_, h0_, h1_, h2_, h3_, h4_, h5_⟩
             have n0_ : Aside0 (Kd.R (Kd.int .i64) 3 w61 w.heap.size (fun k_ => (w.heap.size ≤ k_) ∧ some k_ ≠ (v311 : Value).ownBlock) v308 y307) := ⟨h0_⟩
             have n1_ : Aside0 (Kd.R (Kd.int .i64) 3 w61 w.heap.size (fun k_ => (w.heap.size ≤ k_) ∧ some k_ ≠ (v308 : Value).ownBlock) v311 y310) := ⟨h1_⟩
             have n2_ : Aside0 (Kd.V (Kd.int .i64) 3 w61 w.heap.size (fun k_ => (P0_1_ k_ ∨ w.heap.size ≤ k_) ∧ some k_ ≠ (v308 : Value).ownBlock ∧ some k_ ≠ (v311 : Value).ownBlock ∧ k_ ≠ gb300 ∧ k_ ≠ gb301) (.slice A0_1 l0_1.length c0_1) l0_1) := ⟨h2_⟩
             have n3_ : Aside0 (w61.heap[gb300]? = some (.cells #[.int .i64 a0_0, .slice A0_1 l0_1.length c0_1] 27 (0, 0))) := ⟨h3_⟩
             have n4_ : Aside0 (w61.heap[gb301]? = some (.cells #[.int .i64 a1_0, .int .i64 a1_1] 33 (0, 0))) := ⟨h4_⟩
             have n5_ : Aside0 (Below w.heap.size w w61) := ⟨h5_⟩
             clear HO_301001
             clear BK300
             clear BK301
             clear HB
             clear h0_ h1_ h2_ h3_ h4_ h5_
             have HO309 := n0_
             have HO312 := n1_
             have HO_301001 := n2_
             have BK300 := n3_
             have BK301 := n4_
             have HB := n5_
             clear n0_ n1_ n2_ n3_ n4_ n5_
             have hHeld : w61.cell? ⟨gb300, 0, none⟩ = some (.int .i64 a0_0) ∧ w61.cell? ⟨gb300, 1, none⟩ = some (.slice A0_1 l0_1.length c0_1) := hS_
             obtain ⟨Ao62, co62, eo62⟩ := Kd.R_slice HO312.out
             (first | subst eo62 | (injection eo62 with f1_ f2_ f3_; have f4_ := f1_.symm; have f5_ := f3_.symm; clear f1_ f2_ f3_; subst f4_; subst f5_))
             refine norm_ (a' := ?_) ?_ ?_
             rotate_left
             ·
              simp only [putAll, Act.put, List.setIfInBounds_toArray, List.set_cons_zero, List.set_cons_succ]
              rfl
             refine one_ (i := 8) (N := some 6) q8_53 rfl rfl (one_of HT_.out (by kernel_rfl)) (by decide) (fun K hK => ?_)
             refine box_step ?hg (N := 6) ?hd (cs := #[.int .i64 0, .slice none 0 0]) (t := 27) ?hr ?_; (case hd => rfl); (case hg => rfl); (case hr => first | (go_simp; done) | (go_simp; rfl))
             intro gb313 hg w63 hbox hb
             have n0_ := Aside0.mk (Kd.V_below (Kd.V_elderB (Kd.vk HO_301001) gb313 (Nat.le_of_eq hg.symm)) hb)
             have n1_ := Aside0.mk (Kd.R_below (Kd.rk HO309) hb)
             have n2_ := Aside0.mk (Kd.R_below (Kd.rk HO312) hb)
             have n3_ := Aside0.mk (blk_below (g := gb300) (bk BK300) hb)
             have n4_ := Aside0.mk (blk_below (g := gb301) (bk BK301) hb)
             have n5_ := Aside0.mk (below_step (gw_ HB) hb)
             have n6_ := Aside0.mk (hbox)
             have n7_ := Aside0.mk ((by rw [hg]; exact (below_size (gw_ HB)) : w.heap.size ≤ gb313))
             have n8_ := Aside0.mk ((by rw [hg]; exact (below_size (gw_ HB)) : w.heap.size ≤ gb313))
             have n9_ := Aside0.mk ((by rw [hg]; exact Nat.ne_of_lt (blk_lt (g := gb300) (bk BK300)) : gb300 ≠ gb313))
             have n10_ := Aside0.mk ((by rw [hg]; exact Nat.ne_of_gt (blk_lt (g := gb300) (bk BK300)) : gb313 ≠ gb300))
             have n11_ := Aside0.mk ((by rw [hg]; exact Nat.ne_of_lt (blk_lt (g := gb301) (bk BK301)) : gb301 ≠ gb313))
             have n12_ := Aside0.mk ((by rw [hg]; exact Nat.ne_of_gt (blk_lt (g := gb301) (bk BK301)) : gb313 ≠ gb301))
             clear HO_301001
             clear HO309
             clear HO312
             clear BK300
             clear BK301
             clear HB
             have HO_301001 := n0_
             have HO309 := n1_
             have HO312 := n2_
             have BK300 := n3_
             have BK301 := n4_
             have HB := n5_
             have BK313 := n6_
             have GW313 := n7_
             have GE313 := n8_
             have NB300_313 := n9_
             have NB313_300 := n10_
             have NB301_313 := n11_
             have NB313_301 := n12_
             clear n0_ n1_ n2_ n3_ n4_ n5_ n6_ n7_ n8_ n9_ n10_ n11_ n12_
             clear hb hbox hg
             refine hK.out _ _ ⟨(blk_cell BK300.out 0).trans rfl, (blk_cell BK300.out 1).trans rfl⟩ (fun hHeld => ?_)
             clear hK K
             refine norm_ (a' := ?_) ?_ ?_
             rotate_left
             ·
              show Act.put _ (some 6) _ = _
              simp only [Act.put, List.setIfInBounds_toArray, List.set_cons_zero, List.set_cons_succ, i64_w, i32_w]
              rfl
             exact norm_ (by first | (simp only [putAll, Act.put, List.setIfInBounds_toArray, List.set_cons_zero, List.set_cons_succ]; done) | (simp only [putAll, Act.put, List.setIfInBounds_toArray, List.set_cons_zero, List.set_cons_succ]; rfl)) (hJ4_5_6_8 (v305, v308, .slice Ao62 y310.length co62, gb313) _ ⟨hHeld, (Kd.rk HO309), (Kd.rk HO312), (by (with_reducible repeat (first | apply Kd.V_alloc | apply Kd.V_drewN | apply Kd.V_drew)); exact Kd.V_mono HO_301001.out (fun _ hk => ⟨hk.1.1, ⟨hk.1.2.1, ⟨hk.1.2.2.1, ⟨hk.1.2.2.2.1, ⟨hk.1.2.2.2.2, hk.2⟩⟩⟩⟩⟩)), (bk BK300), (bk BK301), (bk BK313), GW313.out, GE313.out, NB300_313.out, NB313_300.out, NB301_313.out, NB313_301.out, (gw_ HB)⟩)
           rintro ⟨v305, v308, v311, gb313⟩ w62 ⟨hS_, h0_, h1_, h2_, h3_, h4_, h5_, h6_, h7_, h8_, h9_, h10_, h11_, h12_⟩
           have n0_ : Aside0 (Kd.R (Kd.int .i64) 3 w62 w.heap.size (fun k_ => (w.heap.size ≤ k_) ∧ some k_ ≠ (v311 : Value).ownBlock) v308 y307) := ⟨h0_⟩
           have n1_ : Aside0 (Kd.R (Kd.int .i64) 3 w62 w.heap.size (fun k_ => (w.heap.size ≤ k_) ∧ some k_ ≠ (v308 : Value).ownBlock) v311 y310) := ⟨h1_⟩
           have n2_ : Aside0 (Kd.V (Kd.int .i64) 3 w62 w.heap.size (fun k_ => (P0_1_ k_ ∨ w.heap.size ≤ k_) ∧ some k_ ≠ (v308 : Value).ownBlock ∧ some k_ ≠ (v311 : Value).ownBlock ∧ k_ ≠ gb300 ∧ k_ ≠ gb301 ∧ k_ ≠ gb313) (.slice A0_1 l0_1.length c0_1) l0_1) := ⟨h2_⟩
           have n3_ : Aside0 (w62.heap[gb300]? = some (.cells #[.int .i64 a0_0, .slice A0_1 l0_1.length c0_1] 27 (0, 0))) := ⟨h3_⟩
           have n4_ : Aside0 (w62.heap[gb301]? = some (.cells #[.int .i64 a1_0, .int .i64 a1_1] 33 (0, 0))) := ⟨h4_⟩
           have n5_ : Aside0 (w62.heap[gb313]? = some (.cells #[.int .i64 0, .slice none 0 0] 27 (0, 0))) := ⟨h5_⟩
           have n6_ : Aside0 (w.heap.size ≤ gb313) := ⟨h6_⟩
           have n7_ : Aside0 (w.heap.size ≤ gb313) := ⟨h7_⟩
           have n8_ : Aside0 (gb300 ≠ gb313) := ⟨h8_⟩
           have n9_ : Aside0 (gb313 ≠ gb300) := ⟨h9_⟩
           have n10_ : Aside0 (gb301 ≠ gb313) := ⟨h10_⟩
           have n11_ : Aside0 (gb313 ≠ gb301) := ⟨h11_⟩
           have n12_ : Aside0 (Below w.heap.size w w62) := ⟨h12_⟩
           clear HO_301001
           clear BK300
           clear BK301
           clear HB
           clear h0_ h1_ h2_ h3_ h4_ h5_ h6_ h7_ h8_ h9_ h10_ h11_ h12_
           have HO309 := n0_
           have HO312 := n1_
           have HO_301001 := n2_
           have BK300 := n3_
           have BK301 := n4_
           have BK313 := n5_
           have GW313 := n6_
           have GE313 := n7_
           have NB300_313 := n8_
           have NB313_300 := n9_
           have NB301_313 := n10_
           have NB313_301 := n11_
           have HB := n12_
           clear n0_ n1_ n2_ n3_ n4_ n5_ n6_ n7_ n8_ n9_ n10_ n11_ n12_
           have hHeld : w62.cell? ⟨gb300, 0, none⟩ = some (.int .i64 a0_0) ∧ w62.cell? ⟨gb300, 1, none⟩ = some (.slice A0_1 l0_1.length c0_1) := hS_
           obtain ⟨Ao63, co63, eo63⟩ := Kd.R_slice HO312.out
           (first | subst eo63 | (injection eo63 with f1_ f2_ f3_; have f4_ := f1_.symm; have f5_ := f3_.symm; clear f1_ f2_ f3_; subst f4_; subst f5_))
           refine norm_ (a' := ?_) ?_ ?_
           rotate_left
           ·
            simp only [putAll, Act.put, List.setIfInBounds_toArray, List.set_cons_zero, List.set_cons_succ]
            rfl
           refine one_ (i := 9) (N := none) q8_54 rfl rfl (one_of HT_.out (by kernel_rfl)) (by decide) (fun K hK => ?_)
           have hs64 : w62.cell? ⟨gb313, 0, none⟩ = some (.int .i64 0) := (blk_cell BK313.out 0).trans rfl
           have hfs64 := blk_frozen BK313.out 0
           have hns64_0 := NB300_313.out
           have hns64_1 := NB301_313.out
           have hms64_0 := NB313_300.out
           have hms64_1 := NB313_301.out
           have hs65 : w62.cell? ⟨gb313, 1, none⟩ = some (.slice none 0 0) := (blk_cell BK313.out 1).trans rfl
           have hfs65 := blk_frozen BK313.out 1
           have hns65_0 := NB300_313.out
           have hns65_1 := NB301_313.out
           have hms65_0 := NB313_300.out
           have hms65_1 := NB313_301.out
           refine skip_ (w1 := ?_) ?shw ?shN ?_ ?_
           case shw => exact rfl
           case shN => exact rfl
           rotate_left
           ·
            go_simp
            rfl
           refine hK.out _ _ ⟨((cell_far (p := ⟨gb313, _, none⟩) NB300_313.out _).trans (((cell_far (p := ⟨gb313, _, none⟩) NB300_313.out _).trans (hHeld.1)))), ((cell_far (p := ⟨gb313, _, none⟩) NB300_313.out _).trans (((cell_far (p := ⟨gb313, _, none⟩) NB300_313.out _).trans (hHeld.2))))⟩ (fun hHeld => ?_)
           clear hK K
           refine done_ (done_of HT_.out (by kernel_rfl)) ?_
           try go_wp2
           have n0_ : Aside0 (Kd.V (Kd.int .i64) 3 ((w62.setCell ⟨gb313, 0, none⟩ (.int .i64 a0_0)).setCell ⟨gb313, 1, none⟩ (.slice Ao63 y310.length co63)) w.heap.size (fun k_ => (P0_1_ k_ ∨ w.heap.size ≤ k_) ∧ some k_ ≠ (v308 : Value).ownBlock ∧ some k_ ≠ (.slice Ao63 y310.length co63 : Value).ownBlock ∧ k_ ≠ gb300 ∧ k_ ≠ gb301 ∧ k_ ≠ gb313) (.slice A0_1 l0_1.length c0_1) l0_1) := ⟨by (with_reducible repeat (first | apply Kd.V_alloc | apply Kd.V_drewN | apply Kd.V_drew)); exact Kd.V_mono (Kd.V_far (p := ⟨gb313, 1, none⟩) (Kd.V_far (p := ⟨gb313, 0, none⟩) (Kd.V_mono HO_301001.out (fun k_ hk => (⟨hk, hk.2.2.2.2.2⟩ : _ ∧ k_ ≠ gb313))) (fun _ hk => hk.2) (.int .i64 a0_0)) (fun _ hk => hk.2) (.slice Ao63 y310.length co63)) (fun _ hk => ⟨hk.1.1, ⟨hk.1.2.1, ⟨hk.1.2.2.1, ⟨hk.1.2.2.2.1, ⟨hk.1.2.2.2.2.1, hk.1.2.2.2.2.2⟩⟩⟩⟩⟩)⟩
           have n1_ : Aside0 (Kd.R (Kd.int .i64) 3 ((w62.setCell ⟨gb313, 0, none⟩ (.int .i64 a0_0)).setCell ⟨gb313, 1, none⟩ (.slice Ao63 y310.length co63)) w.heap.size (fun k_ => (w.heap.size ≤ k_) ∧ some k_ ≠ (.slice Ao63 y310.length co63 : Value).ownBlock) v308 y307) := ⟨by (with_reducible repeat (first | apply Kd.R_alloc | apply Kd.R_drewN | apply Kd.R_drew)); exact Kd.R_mono (Kd.R_far2 (g := gb313) (Kd.R_types HO309.out BK313.out (by decide)) (fun _ hk => hk.2)) (fun _ hk => ⟨hk.1.1, hk.1.2⟩)⟩
           have n2_ : Aside0 (Kd.R (Kd.int .i64) 3 ((w62.setCell ⟨gb313, 0, none⟩ (.int .i64 a0_0)).setCell ⟨gb313, 1, none⟩ (.slice Ao63 y310.length co63)) w.heap.size (fun k_ => (w.heap.size ≤ k_) ∧ some k_ ≠ (v308 : Value).ownBlock) (.slice Ao63 y310.length co63) y310) := ⟨by (with_reducible repeat (first | apply Kd.R_alloc | apply Kd.R_drewN | apply Kd.R_drew)); exact Kd.R_mono (Kd.R_far2 (g := gb313) (Kd.R_types HO312.out BK313.out (by decide)) (fun _ hk => hk.2)) (fun _ hk => ⟨hk.1.1, hk.1.2⟩)⟩
           have n3_ : Aside0 (((w62.setCell ⟨gb313, 0, none⟩ (.int .i64 a0_0)).setCell ⟨gb313, 1, none⟩ (.slice Ao63 y310.length co63)).heap[gb300]? = some (.cells #[.int .i64 a0_0, .slice A0_1 l0_1.length c0_1] 27 (0, 0))) := ⟨by (with_reducible repeat (first | refine blk_drewN ?_ _ | refine blk_drew ?_ | refine blk_alloc ?_ _)); refine blk_far ?_ NB300_313.out _; (with_reducible repeat (first | refine blk_drewN ?_ _ | refine blk_drew ?_ | refine blk_alloc ?_ _)); refine blk_far ?_ NB300_313.out _; (with_reducible repeat (first | refine blk_drewN ?_ _ | refine blk_drew ?_ | refine blk_alloc ?_ _)); exact BK300.out⟩
           have n4_ : Aside0 (((w62.setCell ⟨gb313, 0, none⟩ (.int .i64 a0_0)).setCell ⟨gb313, 1, none⟩ (.slice Ao63 y310.length co63)).heap[gb301]? = some (.cells #[.int .i64 a1_0, .int .i64 a1_1] 33 (0, 0))) := ⟨by (with_reducible repeat (first | refine blk_drewN ?_ _ | refine blk_drew ?_ | refine blk_alloc ?_ _)); refine blk_far ?_ NB301_313.out _; (with_reducible repeat (first | refine blk_drewN ?_ _ | refine blk_drew ?_ | refine blk_alloc ?_ _)); refine blk_far ?_ NB301_313.out _; (with_reducible repeat (first | refine blk_drewN ?_ _ | refine blk_drew ?_ | refine blk_alloc ?_ _)); exact BK301.out⟩
           have n5_ : Aside0 (((w62.setCell ⟨gb313, 0, none⟩ (.int .i64 a0_0)).setCell ⟨gb313, 1, none⟩ (.slice Ao63 y310.length co63)).heap[gb313]? = some (.cells #[.int .i64 a0_0, .slice Ao63 y310.length co63] 27 (0, 0))) := ⟨by (with_reducible repeat (first | refine blk_drewN ?_ _ | refine blk_drew ?_ | refine blk_alloc ?_ _)); refine blk_put (cs := #[.int .i64 a0_0, .slice none 0 0]) ?_ 1 _ rfl; (with_reducible repeat (first | refine blk_drewN ?_ _ | refine blk_drew ?_ | refine blk_alloc ?_ _)); refine blk_put (cs := #[.int .i64 0, .slice none 0 0]) ?_ 0 _ rfl; (with_reducible repeat (first | refine blk_drewN ?_ _ | refine blk_drew ?_ | refine blk_alloc ?_ _)); exact BK313.out⟩
           have n6_ : Aside0 (Below w.heap.size w ((w62.setCell ⟨gb313, 0, none⟩ (.int .i64 a0_0)).setCell ⟨gb313, 1, none⟩ (.slice Ao63 y310.length co63))) := ⟨gw_ HB⟩
           (try clear HO_301001)
           (try clear HO309)
           (try clear HO312)
           (try clear BK300)
           (try clear BK301)
           (try clear BK313)
           (try clear HB)
           generalize ((w62.setCell ⟨gb313, 0, none⟩ (.int .i64 a0_0)).setCell ⟨gb313, 1, none⟩ (.slice Ao63 y310.length co63)) = w66 at n0_ n1_ n2_ n3_ n4_ n5_ n6_ ⊢
           have HO_301001 := n0_
           have HO309 := n1_
           have HO312 := n2_
           have BK300 := n3_
           have BK301 := n4_
           have BK313 := n5_
           have HB := n6_
           clear n0_ n1_ n2_ n3_ n4_ n5_ n6_
           have n0_ := Aside0.mk (Kd.V_drew HO_301001.out)
           have n1_ := Aside0.mk (Kd.R_drew HO309.out)
           have n2_ := Aside0.mk (Kd.R_drew HO312.out)
           have n3_ := Aside0.mk (blk_drew BK300.out)
           have n4_ := Aside0.mk (blk_drew BK301.out)
           have n5_ := Aside0.mk (blk_drew BK313.out)
           have n6_ := Aside0.mk (below_drew1 HB.out)
           clear HO_301001
           clear HO309
           clear HO312
           clear BK300
           clear BK301
           clear BK313
           clear HB
           have HO_301001 := n0_
           have HO309 := n1_
           have HO312 := n2_
           have BK300 := n3_
           have BK301 := n4_
           have BK313 := n5_
           have HB := n6_
           clear n0_ n1_ n2_ n3_ n4_ n5_ n6_
           refine start_ (n := 37) (S := fun w' => w'.cell? ⟨gb300, 0, none⟩ = some (.int .i64 a0_0) ∧ w'.cell? ⟨gb300, 1, none⟩ = some (.slice A0_1 l0_1.length c0_1) ∧ w'.cell? ⟨gb313, 0, none⟩ = some (.int .i64 a0_0) ∧ w'.cell? ⟨gb313, 1, none⟩ = some (.slice Ao63 y310.length co63) ∧ w'.cell? ⟨gb301, 0, none⟩ = some (.int .i64 a1_0) ∧ w'.cell? ⟨gb301, 1, none⟩ = some (.int .i64 a1_1)) (ds := []) q8_0 (by kernel_rfl) rfl rfl ⟨(blk_cell BK300.out 0).trans rfl, (blk_cell BK300.out 1).trans rfl, (blk_cell BK313.out 0).trans rfl, (blk_cell BK313.out 1).trans rfl, (blk_cell BK301.out 0).trans rfl, (blk_cell BK301.out 1).trans rfl⟩ (fun hHeld => ?_); refine with_tabW colloquylaw06_AttrNone.tab5 colloquylaw06_AttrNone.bits5 (fun HT_ HW_ => ?_)
           generalize w66.drew = w67 at HO_301001 HO309 HO312 BK300 BK301 BK313 HB hHeld ⊢
           refine pure_ (i := 0) (N := some 24) (v := ?_) (a' := ?_) q8_1 rfl rfl (any_of HT_.out (by kernel_rfl)) (fun _ _ _ h => h) (Or.inl ⟨by rfl, ?_⟩) ?_ ?_
           rotate_left
           ·
            intro w'
            go_simp
            with_reducible rfl
           rotate_left
           ·
            simp only [Act.put, List.setIfInBounds_toArray, List.set_cons_zero, List.set_cons_succ, i64_w, i32_w]
            rfl
           refine take_ (i := 1) (N := some 25) (v := ?_) (a' := ?_) q8_2 rfl rfl (take_ofW HT_.out HW_.out (by kernel_rfl)) (fun _ _ _ h => h) (Or.inl ⟨by rfl, ?_⟩) hHeld ?_ ?_
           rotate_left
           ·
            rintro w' ⟨s0, s1, s2, s3, s4, s5⟩
            go_simp
            with_reducible rfl
           rotate_left
           ·
            simp only [Act.put, List.setIfInBounds_toArray, List.set_cons_zero, List.set_cons_succ, i64_w, i32_w]
            rfl
           refine one_ (i := 2) (N := some 26) q8_3 rfl rfl (one_of HT_.out (by kernel_rfl)) (by decide) (fun K hK => ?_)
           refine goes_ Try.func15 (by kernel_rfl) rfl #[.agg #[.int .i64 0, .slice none 0 0], .agg #[.int .i64 a0_0, .slice A0_1 l0_1.length c0_1]] (by rfl) rfl rfl (by (try simp only [List.map_toArray, List.map_cons, List.map_nil]); first | done | rfl | (simp only [List.length_drop, List.length_take]; rfl)) ?_
           refine (attr_Within.calls 0 _ _ ([] : List Int) a0_0 _ _ l0_1 true _ ?side1 ?side2 ?side3 ?side4 A16.out).mono ?_
           (case side1 => exact Kd.C_nil _ _)
           (case side2 => exact Nat.le_refl _)
           (case side3 => repeat (first | exact (Kd.V_reads' HO_301001.out).2.2 | (with_reducible refine Kd.C_alloc ?_ _) | (with_reducible refine Kd.C_drewN ?_ _) | (with_reducible refine Kd.C_drew ?_)))
           (case side4 => exact (Kd.V_reads' HO_301001.out).2.1)
           rintro e w68 ⟨rfl, hb⟩
           refine ⟨_, rfl, ?_⟩
           have n0_ := Aside0.mk (Kd.V_below (Kd.vk HO_301001) hb)
           have n1_ := Aside0.mk (Kd.R_below (Kd.rk HO309) hb)
           have n2_ := Aside0.mk (Kd.R_below (Kd.rk HO312) hb)
           have n3_ := Aside0.mk (blk_below (g := gb300) (bk BK300) hb)
           have n4_ := Aside0.mk (blk_below (g := gb301) (bk BK301) hb)
           have n5_ := Aside0.mk (blk_below (g := gb313) (bk BK313) hb)
           have n6_ := Aside0.mk (below_step (gw_ HB) hb)
           clear HO_301001
           clear HO309
           clear HO312
           clear BK300
           clear BK301
           clear BK313
           clear HB
           have HO_301001 := n0_
           have HO309 := n1_
           have HO312 := n2_
           have BK300 := n3_
           have BK301 := n4_
           have BK313 := n5_
           have HB := n6_
           clear n0_ n1_ n2_ n3_ n4_ n5_ n6_
           (try clear hb)
           (try clear hb2)
           (try clear hk)
           (try clear hi)
           refine hK.out _ _ ⟨(blk_cell BK300.out 0).trans rfl, (blk_cell BK300.out 1).trans rfl, (blk_cell BK313.out 0).trans rfl, (blk_cell BK313.out 1).trans rfl, (blk_cell BK301.out 0).trans rfl, (blk_cell BK301.out 1).trans rfl⟩ (fun hHeld => ?_)
           clear hK K
           refine norm_ (a' := ?_) ?_ ?_
           rotate_left
           ·
            show Act.put _ (some 26) _ = _
            simp only [Act.put, List.setIfInBounds_toArray, List.set_cons_zero, List.set_cons_succ, i64_w, i32_w]
            rfl
           refine pure_ (i := 3) (N := some 27) (v := ?_) (a' := ?_) q8_4 rfl rfl (any_of HT_.out (by kernel_rfl)) (fun _ _ _ h => h) (Or.inl ⟨by rfl, ?_⟩) ?_ ?_
           rotate_left
           ·
            intro w'
            go_simp
            with_reducible rfl
           rotate_left
           ·
            simp only [Act.put, List.setIfInBounds_toArray, List.set_cons_zero, List.set_cons_succ, i64_w, i32_w]
            rfl
           refine take_ (i := 4) (N := some 28) (v := ?_) (a' := ?_) q8_5 rfl rfl (take_ofW HT_.out HW_.out (by kernel_rfl)) (fun _ _ _ h => h) (Or.inl ⟨by rfl, ?_⟩) hHeld ?_ ?_
           rotate_left
           ·
            rintro w' ⟨s0, s1, s2, s3, s4, s5⟩
            go_simp
            with_reducible rfl
           rotate_left
           ·
            simp only [Act.put, List.setIfInBounds_toArray, List.set_cons_zero, List.set_cons_succ, i64_w, i32_w]
            rfl
           refine take_ (i := 5) (N := some 29) (v := ?_) (a' := ?_) q8_6 rfl rfl (take_ofW HT_.out HW_.out (by kernel_rfl)) (fun _ _ _ h => h) (Or.inl ⟨by rfl, ?_⟩) hHeld ?_ ?_
           rotate_left
           ·
            rintro w' ⟨s0, s1, s2, s3, s4, s5⟩
            go_simp
            with_reducible rfl
           rotate_left
           ·
            simp only [Act.put, List.setIfInBounds_toArray, List.set_cons_zero, List.set_cons_succ, i64_w, i32_w]
            rfl
           refine one_ (i := 6) (N := some 30) q8_7 rfl rfl (one_of HT_.out (by kernel_rfl)) (by decide) (fun K hK => ?_)
           refine goes_ Try.func16 (by kernel_rfl) rfl #[.agg #[.int .i64 a0_0, .slice A0_1 l0_1.length c0_1], .agg #[.int .i64 a0_0, .slice Ao63 y310.length co63]] (by rfl) rfl rfl (by (try simp only [List.map_toArray, List.map_cons, List.map_nil]); first | done | rfl | (simp only [List.length_drop, List.length_take]; rfl)) ?_
           with_reducible refine (attr_Same.calls a0_0 _ _ l0_1 a0_0 _ _ y310 true _ ?side1 ?side2 ?side3 ?side4 A18.out).mono ?_
           (case side1 => repeat (first | exact (Kd.V_reads' HO_301001.out).2.2 | (with_reducible refine Kd.C_alloc ?_ _) | (with_reducible refine Kd.C_drewN ?_ _) | (with_reducible refine Kd.C_drew ?_)))
           (case side2 => exact (Kd.V_reads' HO_301001.out).2.1)
           (case side3 => repeat (first | exact (Kd.R_reads' HO312.out).2.2 | (with_reducible refine Kd.C_alloc ?_ _) | (with_reducible refine Kd.C_drewN ?_ _) | (with_reducible refine Kd.C_drew ?_)))
           (case side4 => exact (Kd.R_reads' HO312.out).2.1)
           rintro e w69 ⟨rfl, hb⟩
           refine ⟨_, rfl, ?_⟩
           have n0_ := Aside0.mk (Kd.V_below (Kd.vk HO_301001) hb)
           have n1_ := Aside0.mk (Kd.R_below (Kd.rk HO309) hb)
           have n2_ := Aside0.mk (Kd.R_below (Kd.rk HO312) hb)
           have n3_ := Aside0.mk (blk_below (g := gb300) (bk BK300) hb)
           have n4_ := Aside0.mk (blk_below (g := gb301) (bk BK301) hb)
           have n5_ := Aside0.mk (blk_below (g := gb313) (bk BK313) hb)
           have n6_ := Aside0.mk (below_step (gw_ HB) hb)
           clear HO_301001
           clear HO309
           clear HO312
           clear BK300
           clear BK301
           clear BK313
           clear HB
           have HO_301001 := n0_
           have HO309 := n1_
           have HO312 := n2_
           have BK300 := n3_
           have BK301 := n4_
           have BK313 := n5_
           have HB := n6_
           clear n0_ n1_ n2_ n3_ n4_ n5_ n6_
           (try clear hb)
           (try clear hb2)
           (try clear hk)
           (try clear hi)
           refine hK.out _ _ ⟨(blk_cell BK300.out 0).trans rfl, (blk_cell BK300.out 1).trans rfl, (blk_cell BK313.out 0).trans rfl, (blk_cell BK313.out 1).trans rfl, (blk_cell BK301.out 0).trans rfl, (blk_cell BK301.out 1).trans rfl⟩ (fun hHeld => ?_)
           clear hK K
           refine norm_ (a' := ?_) ?_ ?_
           rotate_left
           ·
            show Act.put _ (some 30) _ = _
            simp only [Act.put, List.setIfInBounds_toArray, List.set_cons_zero, List.set_cons_succ, i64_w, i32_w]
            rfl
           refine pure_ (i := 7) (N := some 31) (v := ?_) (a' := ?_) q8_8 rfl rfl (any_of HT_.out (by kernel_rfl)) (fun _ _ _ h => h) (Or.inl ⟨by rfl, ?_⟩) ?_ ?_
           rotate_left
           ·
            intro w'
            go_simp
            with_reducible rfl
           rotate_left
           ·
            simp only [Act.put, List.setIfInBounds_toArray, List.set_cons_zero, List.set_cons_succ, i64_w, i32_w]
            rfl
           refine pure_ (i := 8) (N := some 32) (v := ?_) (a' := ?_) q8_9 rfl rfl (any_of HT_.out (by kernel_rfl)) (fun _ _ _ h => h) (Or.inl ⟨by rfl, ?_⟩) ?_ ?_
           rotate_left
           ·
            intro w'
            go_simp
            with_reducible rfl
           rotate_left
           ·
            simp only [Act.put, List.setIfInBounds_toArray, List.set_cons_zero, List.set_cons_succ, i64_w, i32_w]
            rfl
           refine pure_ (i := 10) (N := some 34) (v := ?_) (a' := ?_) q8_10 rfl rfl (any_of HT_.out (by kernel_rfl)) (fun _ _ _ h => h) (Or.inl ⟨by rfl, ?_⟩) ?_ ?_
           rotate_left
           ·
            intro w'
            go_simp
            with_reducible rfl
           rotate_left
           ·
            simp only [Act.put, List.setIfInBounds_toArray, List.set_cons_zero, List.set_cons_succ, i64_w, i32_w]
            rfl
           refine take_ (i := 9) (N := some 33) (v := ?_) (a' := ?_) q8_11 rfl rfl (take_ofW HT_.out HW_.out (by kernel_rfl)) (fun _ _ _ h => h) (Or.inl ⟨by rfl, ?_⟩) hHeld ?_ ?_
           rotate_left
           ·
            rintro w' ⟨s0, s1, s2, s3, s4, s5⟩
            go_simp
            with_reducible rfl
           rotate_left
           ·
            simp only [Act.put, List.setIfInBounds_toArray, List.set_cons_zero, List.set_cons_succ, i64_w, i32_w]
            rfl
           refine take_ (i := 13) (N := some 37) (v := ?_) (a' := ?_) q8_12 rfl rfl (take_ofW HT_.out HW_.out (by kernel_rfl)) (fun _ _ _ h => h) (Or.inl ⟨by rfl, ?_⟩) hHeld ?_ ?_
           rotate_left
           ·
            rintro w' ⟨s0, s1, s2, s3, s4, s5⟩
            go_simp
            with_reducible rfl
           rotate_left
           ·
            simp only [Act.put, List.setIfInBounds_toArray, List.set_cons_zero, List.set_cons_succ, i64_w, i32_w]
            rfl
           refine one_ (i := 11) (N := some 35) q8_13 rfl rfl (one_of HT_.out (by kernel_rfl)) (by decide) (fun K hK => ?_)
           refine Kd.N_lit_step k27 _ 27 ?hg (N' := 35) ?hd (xs := ([(⟨a0_0, l0_1⟩ : S27), (⟨0, ([] : List Int)⟩ : S27)] : List (S27))) (inner := [.int .i64 a0_0, .slice A0_1 l0_1.length c0_1, .int .i64 0, .slice none 0 0]) (ok := (fun k_ => (P0_1_ k_ ∨ w.heap.size ≤ k_) ∧ some k_ ≠ (v308 : Value).ownBlock ∧ some k_ ≠ (.slice Ao63 y310.length co63 : Value).ownBlock ∧ k_ ≠ gb300 ∧ k_ ≠ gb301 ∧ k_ ≠ gb313)) (okp := (fun k_ => (P0_1_ k_ ∨ w.heap.size ≤ k_) ∧ some k_ ≠ (v308 : Value).ownBlock ∧ some k_ ≠ (.slice Ao63 y310.length co63 : Value).ownBlock ∧ k_ ≠ gb300 ∧ k_ ≠ gb301 ∧ k_ ≠ gb313)) ?hr ?hp (fun _ hk => hk) ((show ∀ k_, w69.heap.size ≤ k_ → (fun k_ => (P0_1_ k_ ∨ w.heap.size ≤ k_) ∧ some k_ ≠ (v308 : Value).ownBlock ∧ some k_ ≠ (.slice Ao63 y310.length co63 : Value).ownBlock ∧ k_ ≠ gb300 ∧ k_ ≠ gb301 ∧ k_ ≠ gb313) k_ from fun k_ hk => ⟨(.inr (Nat.le_trans (below_size (gw_ HB)) hk)), Kd.fresh' (Kd.R_lt (Kd.rk HO309)) k_ hk, Kd.fresh' (Kd.R_lt (Kd.rk HO312)) k_ hk, Kd.freshB (g := gb300) (bk BK300) k_ hk, Kd.freshB (g := gb301) (bk BK301) k_ hk, Kd.freshB (g := gb313) (bk BK313) k_ hk⟩) _ (Nat.le_refl _)) (Below.refl _ _) (Nat.le_refl _) (by simp) ?_; (case hd => rfl); (case hg => rfl); (case hr => first | (go_simp; done) | (go_simp; rfl)); (case hp => exact (Reps.c2 (show Kd.FK k27 _ _ (⟨a0_0, l0_1⟩ : S27) [.int .i64 a0_0, .slice A0_1 l0_1.length c0_1] from (k27_mkF _ _ (⟨a0_0, l0_1⟩ : S27) (Kd.V_reads' (Kd.V_mono (ok' := (fun k_ => (P0_1_ k_ ∨ w.heap.size ≤ k_) ∧ some k_ ≠ (v308 : Value).ownBlock ∧ some k_ ≠ (.slice Ao63 y310.length co63 : Value).ownBlock ∧ k_ ≠ gb300 ∧ k_ ≠ gb301 ∧ k_ ≠ gb313)) (HO_301001.out) (fun k_ hk => ⟨hk.1, ⟨hk.2.1, ⟨hk.2.2.1, ⟨hk.2.2.2.1, ⟨hk.2.2.2.2.1, hk.2.2.2.2.2⟩⟩⟩⟩⟩))).2.1 (Kd.V_F (Kd.V_mono (ok' := (fun k_ => (P0_1_ k_ ∨ w.heap.size ≤ k_) ∧ some k_ ≠ (v308 : Value).ownBlock ∧ some k_ ≠ (.slice Ao63 y310.length co63 : Value).ownBlock ∧ k_ ≠ gb300 ∧ k_ ≠ gb301 ∧ k_ ≠ gb313)) (HO_301001.out) (fun k_ hk => ⟨hk.1, ⟨hk.2.1, ⟨hk.2.2.1, ⟨hk.2.2.2.1, ⟨hk.2.2.2.2.1, hk.2.2.2.2.2⟩⟩⟩⟩⟩))))) (Reps.c2 (show Kd.FK k27 _ _ (⟨0, ([] : List Int)⟩ : S27) [.int .i64 0, .slice none 0 0] from (k27_mkF _ _ (⟨0, ([] : List Int)⟩ : S27) (Nat.le_refl _) (Kd.F_nil _ _ _))) (Reps.none _ _))))
           intro v317 w70 ho71 hb hg_ hnew_
           clear hg_ hnew_
           (first | rw [← Ny316.out] at ho71 | (simp only [Int.reduceToNat] at ho71; rw [← Ny316.out] at ho71))
           have n0_ := Aside0.mk (Kd.V_elder' (Kd.vk HO_301001) (Kd.N_base ho71) hb)
           have n1_ := Aside0.mk (Kd.R_below (Kd.rk HO309) hb)
           have n2_ := Aside0.mk (Kd.R_below (Kd.rk HO312) hb)
           have n3_ := Aside0.mk (Kd.N_lower ho71 (below_size (gw_ HB)))
           have n4_ := Aside0.mk (blk_below (g := gb300) (bk BK300) hb)
           have n5_ := Aside0.mk (blk_below (g := gb301) (bk BK301) hb)
           have n6_ := Aside0.mk (blk_below (g := gb313) (bk BK313) hb)
           have n7_ := Aside0.mk (below_step (gw_ HB) hb)
           clear HO_301001
           clear HO309
           clear HO312
           clear BK300
           clear BK301
           clear BK313
           clear HB
           have HO_301001 := n0_
           have HO309 := n1_
           have HO312 := n2_
           have HO318 := n3_
           have BK300 := n4_
           have BK301 := n5_
           have BK313 := n6_
           have HB := n7_
           clear n0_ n1_ n2_ n3_ n4_ n5_ n6_ n7_
           clear hb ho71
           obtain ⟨Ao72, co72, eo72⟩ := Kd.N_slice HO318.out
           (first | subst eo72 | (injection eo72 with f1_ f2_ f3_; have f4_ := f1_.symm; have f5_ := f3_.symm; clear f1_ f2_ f3_; subst f4_; subst f5_))
           refine hK.out _ _ ⟨(blk_cell BK300.out 0).trans rfl, (blk_cell BK300.out 1).trans rfl, (blk_cell BK313.out 0).trans rfl, (blk_cell BK313.out 1).trans rfl, (blk_cell BK301.out 0).trans rfl, (blk_cell BK301.out 1).trans rfl⟩ (fun hHeld => ?_)
           clear hK K
           refine norm_ (a' := ?_) ?_ ?_
           rotate_left
           ·
            show Act.put _ (some 35) _ = _
            simp only [Act.put, List.setIfInBounds_toArray, List.set_cons_zero, List.set_cons_succ, i64_w, i32_w]
            rfl
           refine one_ (i := 12) (N := some 36) q8_14 rfl rfl (one_of HT_.out (by kernel_rfl)) (by decide) (fun K hK => ?_)
           refine goes_ Try.func11 (by kernel_rfl) rfl #[.slice Ao72 y316.length co72] (by rfl) rfl rfl (by (try simp only [List.map_toArray, List.map_cons, List.map_nil]); first | done | rfl | (simp only [List.length_drop, List.length_take]; rfl)) ?_
           with_reducible refine (attr_Merge.calls kj3 _ _ y316 t319 t320 _ ?side1 ?side2 A20.out).mono ?_
           (case side1 => repeat (first | exact (Kd.N_reads' HO318.out).2.2 | (with_reducible refine Kd.C_alloc ?_ _) | (with_reducible refine Kd.C_drewN ?_ _) | (with_reducible refine Kd.C_drew ?_)))
           (case side2 => exact (Kd.N_reads' HO318.out).2.1)
           rintro e w73 ⟨v321, rfl, ho0, hb⟩
           refine ⟨_, rfl, ?_⟩
           have n0_ := Aside0.mk (Kd.V_elder' (Kd.vk HO_301001) (Kd.R_base ho0) hb)
           have n1_ := Aside0.mk (Kd.R_elder' (Kd.rk HO309) (Kd.R_base ho0) hb)
           have n2_ := Aside0.mk (Kd.R_elder' (Kd.rk HO312) (Kd.R_base ho0) hb)
           have n3_ := Aside0.mk (Kd.N_elder' (Kd.nk HO318) (Kd.R_base ho0) hb)
           have n4_ := Aside0.mk (Kd.R_lower (Kd.R_new' (Kd.R_new' (Kd.R_newM (M := fun k_ => (w.heap.size ≤ k_)) ho0 (below_size (gw_ HB)) (fun k_ h_ => h_)) (Kd.R_lt (Kd.rk HO309))) (Kd.R_lt (Kd.rk HO312))) (below_size (gw_ HB)))
           have n5_ := Aside0.mk (blk_below (g := gb300) (bk BK300) hb)
           have n6_ := Aside0.mk (blk_below (g := gb301) (bk BK301) hb)
           have n7_ := Aside0.mk (blk_below (g := gb313) (bk BK313) hb)
           have n8_ := Aside0.mk (below_step (gw_ HB) hb)
           clear HO_301001
           clear HO309
           clear HO312
           clear HO318
           clear BK300
           clear BK301
           clear BK313
           clear HB
           have HO_301001 := n0_
           have HO309 := n1_
           have HO312 := n2_
           have HO318 := n3_
           have HO322 := n4_
           have BK300 := n5_
           have BK301 := n6_
           have BK313 := n7_
           have HB := n8_
           clear n0_ n1_ n2_ n3_ n4_ n5_ n6_ n7_ n8_
           (try clear hb)
           (try clear hb2)
           (try clear hk)
           (try clear hi)
           (try clear ho0)
           obtain ⟨Ao74, co74, eo74⟩ := Kd.R_slice HO322.out
           (first | subst eo74 | (injection eo74 with f1_ f2_ f3_; have f4_ := f1_.symm; have f5_ := f3_.symm; clear f1_ f2_ f3_; subst f4_; subst f5_))
           refine hK.out _ _ ⟨(blk_cell BK300.out 0).trans rfl, (blk_cell BK300.out 1).trans rfl, (blk_cell BK313.out 0).trans rfl, (blk_cell BK313.out 1).trans rfl, (blk_cell BK301.out 0).trans rfl, (blk_cell BK301.out 1).trans rfl⟩ (fun hHeld => ?_)
           clear hK K
           refine norm_ (a' := ?_) ?_ ?_
           rotate_left
           ·
            show Act.put _ (some 36) _ = _
            simp only [Act.put, List.setIfInBounds_toArray, List.set_cons_zero, List.set_cons_succ, i64_w, i32_w]
            rfl
           refine one_ (i := 14) (N := some 38) q8_15 rfl rfl (one_of HT_.out (by kernel_rfl)) (by decide) (fun K hK => ?_)
           refine goes_ Try.func16 (by kernel_rfl) rfl #[.agg #[.int .i64 t319, .slice Ao74 t320.length co74], .agg #[.int .i64 a0_0, .slice A0_1 l0_1.length c0_1]] (by rfl) rfl rfl (by (try simp only [List.map_toArray, List.map_cons, List.map_nil]); first | done | rfl | (simp only [List.length_drop, List.length_take]; rfl)) ?_
           with_reducible refine (attr_Same.calls t319 _ _ t320 a0_0 _ _ l0_1 true _ ?side1 ?side2 ?side3 ?side4 A21.out).mono ?_
           (case side1 => repeat (first | exact (Kd.R_reads' HO322.out).2.2 | (with_reducible refine Kd.C_alloc ?_ _) | (with_reducible refine Kd.C_drewN ?_ _) | (with_reducible refine Kd.C_drew ?_)))
           (case side2 => exact (Kd.R_reads' HO322.out).2.1)
           (case side3 => repeat (first | exact (Kd.V_reads' HO_301001.out).2.2 | (with_reducible refine Kd.C_alloc ?_ _) | (with_reducible refine Kd.C_drewN ?_ _) | (with_reducible refine Kd.C_drew ?_)))
           (case side4 => exact (Kd.V_reads' HO_301001.out).2.1)
           rintro e w75 ⟨rfl, hb⟩
           refine ⟨_, rfl, ?_⟩
           have n0_ := Aside0.mk (Kd.V_below (Kd.vk HO_301001) hb)
           have n1_ := Aside0.mk (Kd.R_below (Kd.rk HO309) hb)
           have n2_ := Aside0.mk (Kd.R_below (Kd.rk HO312) hb)
           have n3_ := Aside0.mk (Kd.N_below (Kd.nk HO318) hb)
           have n4_ := Aside0.mk (Kd.R_below (Kd.rk HO322) hb)
           have n5_ := Aside0.mk (blk_below (g := gb300) (bk BK300) hb)
           have n6_ := Aside0.mk (blk_below (g := gb301) (bk BK301) hb)
           have n7_ := Aside0.mk (blk_below (g := gb313) (bk BK313) hb)
           have n8_ := Aside0.mk (below_step (gw_ HB) hb)
           clear HO_301001
           clear HO309
           clear HO312
           clear HO318
           clear HO322
           clear BK300
           clear BK301
           clear BK313
           clear HB
           have HO_301001 := n0_
           have HO309 := n1_
           have HO312 := n2_
           have HO318 := n3_
           have HO322 := n4_
           have BK300 := n5_
           have BK301 := n6_
           have BK313 := n7_
           have HB := n8_
           clear n0_ n1_ n2_ n3_ n4_ n5_ n6_ n7_ n8_
           (try clear hb)
           (try clear hb2)
           (try clear hk)
           (try clear hi)
           refine hK.out _ _ ⟨(blk_cell BK300.out 0).trans rfl, (blk_cell BK300.out 1).trans rfl, (blk_cell BK313.out 0).trans rfl, (blk_cell BK313.out 1).trans rfl, (blk_cell BK301.out 0).trans rfl, (blk_cell BK301.out 1).trans rfl⟩ (fun hHeld => ?_)
           clear hK K
           refine norm_ (a' := ?_) ?_ ?_
           rotate_left
           ·
            show Act.put _ (some 38) _ = _
            simp only [Act.put, List.setIfInBounds_toArray, List.set_cons_zero, List.set_cons_succ, i64_w, i32_w]
            rfl
           refine pure_ (i := 15) (N := some 39) (v := ?_) (a' := ?_) q8_16 rfl rfl (any_of HT_.out (by kernel_rfl)) (fun _ _ _ h => h) (Or.inl ⟨by rfl, ?_⟩) ?_ ?_
           rotate_left
           ·
            intro w'
            go_simp
            with_reducible rfl
           rotate_left
           ·
            simp only [Act.put, List.setIfInBounds_toArray, List.set_cons_zero, List.set_cons_succ, i64_w, i32_w]
            rfl
           refine pure_ (i := 16) (N := some 40) (v := ?_) (a' := ?_) q8_17 rfl rfl (any_of HT_.out (by kernel_rfl)) (fun _ _ _ h => h) (Or.inl ⟨by rfl, ?_⟩) ?_ ?_
           rotate_left
           ·
            intro w'
            go_simp
            with_reducible rfl
           rotate_left
           ·
            simp only [Act.put, List.setIfInBounds_toArray, List.set_cons_zero, List.set_cons_succ, i64_w, i32_w]
            rfl
           refine pure_ (i := 17) (N := some 41) (v := ?_) (a' := ?_) q8_18 rfl rfl (any_of HT_.out (by kernel_rfl)) (fun _ _ _ h => h) (Or.inl ⟨by rfl, ?_⟩) ?_ ?_
           rotate_left
           ·
            intro w'
            go_simp
            with_reducible rfl
           rotate_left
           ·
            simp only [Act.put, List.setIfInBounds_toArray, List.set_cons_zero, List.set_cons_succ, i64_w, i32_w]
            rfl
           refine take_ (i := 18) (N := some 42) (v := ?_) (a' := ?_) q8_19 rfl rfl (take_ofW HT_.out HW_.out (by kernel_rfl)) (fun _ _ _ h => h) (Or.inl ⟨by rfl, ?_⟩) hHeld ?_ ?_
           rotate_left
           ·
            rintro w' ⟨s0, s1, s2, s3, s4, s5⟩
            go_simp
            with_reducible rfl
           rotate_left
           ·
            simp only [Act.put, List.setIfInBounds_toArray, List.set_cons_zero, List.set_cons_succ, i64_w, i32_w]
            rfl
           refine pure_ (i := 19) (N := some 43) (v := ?_) (a' := ?_) q8_20 rfl rfl (any_of HT_.out (by kernel_rfl)) (fun _ _ _ h => h) (Or.inl ⟨by rfl, ?_⟩) ?_ ?_
           rotate_left
           ·
            intro w'
            go_simp
            with_reducible rfl
           rotate_left
           ·
            simp only [Act.put, List.setIfInBounds_toArray, List.set_cons_zero, List.set_cons_succ, i64_w, i32_w]
            rfl
           refine pure_ (i := 20) (N := some 44) (v := ?_) (a' := ?_) q8_21 rfl rfl (any_of HT_.out (by kernel_rfl)) (fun _ _ _ h => h) (Or.inl ⟨by rfl, ?_⟩) ?_ ?_
           rotate_left
           ·
            intro w'
            go_simp
            with_reducible rfl
           rotate_left
           ·
            simp only [Act.put, List.setIfInBounds_toArray, List.set_cons_zero, List.set_cons_succ, i64_w, i32_w]
            rfl
           refine take_ (i := 21) (N := some 45) (v := ?_) (a' := ?_) q8_22 rfl rfl (take_ofW HT_.out HW_.out (by kernel_rfl)) (fun _ _ _ h => h) (Or.inl ⟨by rfl, ?_⟩) hHeld ?_ ?_
           rotate_left
           ·
            rintro w' ⟨s0, s1, s2, s3, s4, s5⟩
            go_simp
            with_reducible rfl
           rotate_left
           ·
            simp only [Act.put, List.setIfInBounds_toArray, List.set_cons_zero, List.set_cons_succ, i64_w, i32_w]
            rfl
           refine take_ (i := 22) (N := some 46) (v := ?_) (a' := ?_) q8_23 rfl rfl (take_ofW HT_.out HW_.out (by kernel_rfl)) (fun _ _ _ h => h) (Or.inl ⟨by rfl, ?_⟩) hHeld ?_ ?_
           rotate_left
           ·
            rintro w' ⟨s0, s1, s2, s3, s4, s5⟩
            go_simp
            with_reducible rfl
           rotate_left
           ·
            simp only [Act.put, List.setIfInBounds_toArray, List.set_cons_zero, List.set_cons_succ, i64_w, i32_w]
            rfl
           refine one_ (i := 23) (N := some 47) q8_24 rfl rfl (one_of HT_.out (by kernel_rfl)) (by decide) (fun K hK => ?_)
           refine goes_ Try.func14 (by kernel_rfl) rfl #[.agg #[.int .i64 a0_0, .slice A0_1 l0_1.length c0_1], .agg #[.int .i64 a1_0, .int .i64 a1_1]] (by rfl) rfl rfl (by (try simp only [List.map_toArray, List.map_cons, List.map_nil]); first | done | rfl | (simp only [List.length_drop, List.length_take]; rfl)) ?_
           with_reducible refine (attr_Waits.calls a0_0 _ _ l0_1 a1_0 a1_1 false _ ?side1 ?side2 A50.out).mono ?_
           (case side1 => repeat (first | exact (Kd.V_reads' HO_301001.out).2.2 | (with_reducible refine Kd.C_alloc ?_ _) | (with_reducible refine Kd.C_drewN ?_ _) | (with_reducible refine Kd.C_drew ?_)))
           (case side2 => exact (Kd.V_reads' HO_301001.out).2.1)
           rintro e w76 ⟨rfl, hb⟩
           refine ⟨_, rfl, ?_⟩
           have n0_ := Aside0.mk (Kd.V_below (Kd.vk HO_301001) hb)
           have n1_ := Aside0.mk (Kd.R_below (Kd.rk HO309) hb)
           have n2_ := Aside0.mk (Kd.R_below (Kd.rk HO312) hb)
           have n3_ := Aside0.mk (Kd.N_below (Kd.nk HO318) hb)
           have n4_ := Aside0.mk (Kd.R_below (Kd.rk HO322) hb)
           have n5_ := Aside0.mk (blk_below (g := gb300) (bk BK300) hb)
           have n6_ := Aside0.mk (blk_below (g := gb301) (bk BK301) hb)
           have n7_ := Aside0.mk (blk_below (g := gb313) (bk BK313) hb)
           have n8_ := Aside0.mk (below_step (gw_ HB) hb)
           clear HO_301001
           clear HO309
           clear HO312
           clear HO318
           clear HO322
           clear BK300
           clear BK301
           clear BK313
           clear HB
           have HO_301001 := n0_
           have HO309 := n1_
           have HO312 := n2_
           have HO318 := n3_
           have HO322 := n4_
           have BK300 := n5_
           have BK301 := n6_
           have BK313 := n7_
           have HB := n8_
           clear n0_ n1_ n2_ n3_ n4_ n5_ n6_ n7_ n8_
           (try clear hb)
           (try clear hb2)
           (try clear hk)
           (try clear hi)
           refine hK.out _ _ ⟨(blk_cell BK300.out 0).trans rfl, (blk_cell BK300.out 1).trans rfl, (blk_cell BK313.out 0).trans rfl, (blk_cell BK313.out 1).trans rfl, (blk_cell BK301.out 0).trans rfl, (blk_cell BK301.out 1).trans rfl⟩ (fun hHeld => ?_)
           clear hK K
           refine norm_ (a' := ?_) ?_ ?_
           rotate_left
           ·
            show Act.put _ (some 47) _ = _
            simp only [Act.put, List.setIfInBounds_toArray, List.set_cons_zero, List.set_cons_succ, i64_w, i32_w]
            rfl
           refine pure_ (i := 24) (N := some 48) (v := ?_) (a' := ?_) q8_25 rfl rfl (any_of HT_.out (by kernel_rfl)) (fun _ _ _ h => h) (Or.inl ⟨by rfl, ?_⟩) ?_ ?_
           rotate_left
           ·
            intro w'
            go_simp
            with_reducible rfl
           rotate_left
           ·
            simp only [Act.put, List.setIfInBounds_toArray, List.set_cons_zero, List.set_cons_succ, i64_w, i32_w]
            rfl
           refine pure_ (i := 25) (N := some 49) (v := ?_) (a' := ?_) q8_26 rfl rfl (any_of HT_.out (by kernel_rfl)) (fun _ _ _ h => h) (Or.inl ⟨by rfl, ?_⟩) ?_ ?_
           rotate_left
           ·
            intro w'
            go_simp
            with_reducible rfl
           rotate_left
           ·
            simp only [Act.put, List.setIfInBounds_toArray, List.set_cons_zero, List.set_cons_succ, i64_w, i32_w]
            rfl
           refine pure_ (i := 26) (N := some 50) (v := ?_) (a' := ?_) q8_27 rfl rfl (any_of HT_.out (by kernel_rfl)) (fun _ _ _ h => h) (Or.inl ⟨by rfl, ?_⟩) ?_ ?_
           rotate_left
           ·
            intro w'
            go_simp
            with_reducible rfl
           rotate_left
           ·
            simp only [Act.put, List.setIfInBounds_toArray, List.set_cons_zero, List.set_cons_succ, i64_w, i32_w]
            rfl
           refine pure_ (i := 27) (N := some 51) (v := ?_) (a' := ?_) q8_28 rfl rfl (any_of HT_.out (by kernel_rfl)) (fun _ _ _ h => h) (Or.inl ⟨by rfl, ?_⟩) ?_ ?_
           rotate_left
           ·
            intro w'
            go_simp
            with_reducible rfl
           rotate_left
           ·
            simp only [Act.put, List.setIfInBounds_toArray, List.set_cons_zero, List.set_cons_succ, i64_w, i32_w]
            rfl
           refine take_ (i := 28) (N := some 52) (v := ?_) (a' := ?_) q8_29 rfl rfl (take_ofW HT_.out HW_.out (by kernel_rfl)) (fun _ _ _ h => h) (Or.inl ⟨by rfl, ?_⟩) hHeld ?_ ?_
           rotate_left
           ·
            rintro w' ⟨s0, s1, s2, s3, s4, s5⟩
            go_simp
            with_reducible rfl
           rotate_left
           ·
            simp only [Act.put, List.setIfInBounds_toArray, List.set_cons_zero, List.set_cons_succ, i64_w, i32_w]
            rfl
           refine take_ (i := 29) (N := some 53) (v := ?_) (a' := ?_) q8_30 rfl rfl (take_ofW HT_.out HW_.out (by kernel_rfl)) (fun _ _ _ h => h) (Or.inl ⟨by rfl, ?_⟩) hHeld ?_ ?_
           rotate_left
           ·
            rintro w' ⟨s0, s1, s2, s3, s4, s5⟩
            go_simp
            with_reducible rfl
           rotate_left
           ·
            simp only [Act.put, List.setIfInBounds_toArray, List.set_cons_zero, List.set_cons_succ, i64_w, i32_w]
            rfl
           refine take_ (i := 31) (N := some 55) (v := ?_) (a' := ?_) q8_31 rfl rfl (take_ofW HT_.out HW_.out (by kernel_rfl)) (fun _ _ _ h => h) (Or.inl ⟨by rfl, ?_⟩) hHeld ?_ ?_
           rotate_left
           ·
            rintro w' ⟨s0, s1, s2, s3, s4, s5⟩
            go_simp
            with_reducible rfl
           rotate_left
           ·
            simp only [Act.put, List.setIfInBounds_toArray, List.set_cons_zero, List.set_cons_succ, i64_w, i32_w]
            rfl
           refine take_ (i := 32) (N := some 56) (v := ?_) (a' := ?_) q8_32 rfl rfl (take_ofW HT_.out HW_.out (by kernel_rfl)) (fun _ _ _ h => h) (Or.inl ⟨by rfl, ?_⟩) hHeld ?_ ?_
           rotate_left
           ·
            rintro w' ⟨s0, s1, s2, s3, s4, s5⟩
            go_simp
            with_reducible rfl
           rotate_left
           ·
            simp only [Act.put, List.setIfInBounds_toArray, List.set_cons_zero, List.set_cons_succ, i64_w, i32_w]
            rfl
           refine one_ (i := 30) (N := some 54) q8_33 rfl rfl (one_of HT_.out (by kernel_rfl)) (by decide) (fun K hK => ?_)
           refine goes_ Try.func14 (by kernel_rfl) rfl #[.agg #[.int .i64 a0_0, .slice A0_1 l0_1.length c0_1], .agg #[.int .i64 a1_0, .int .i64 a1_1]] (by rfl) rfl rfl (by (try simp only [List.map_toArray, List.map_cons, List.map_nil]); first | done | rfl | (simp only [List.length_drop, List.length_take]; rfl)) ?_
           with_reducible refine (attr_Waits.calls a0_0 _ _ l0_1 a1_0 a1_1 t327 _ ?side1 ?side2 A52.out).mono ?_
           (case side1 => repeat (first | exact (Kd.V_reads' HO_301001.out).2.2 | (with_reducible refine Kd.C_alloc ?_ _) | (with_reducible refine Kd.C_drewN ?_ _) | (with_reducible refine Kd.C_drew ?_)))
           (case side2 => exact (Kd.V_reads' HO_301001.out).2.1)
           rintro e w77 ⟨rfl, hb⟩
           refine ⟨_, rfl, ?_⟩
           have n0_ := Aside0.mk (Kd.V_below (Kd.vk HO_301001) hb)
           have n1_ := Aside0.mk (Kd.R_below (Kd.rk HO309) hb)
           have n2_ := Aside0.mk (Kd.R_below (Kd.rk HO312) hb)
           have n3_ := Aside0.mk (Kd.N_below (Kd.nk HO318) hb)
           have n4_ := Aside0.mk (Kd.R_below (Kd.rk HO322) hb)
           have n5_ := Aside0.mk (blk_below (g := gb300) (bk BK300) hb)
           have n6_ := Aside0.mk (blk_below (g := gb301) (bk BK301) hb)
           have n7_ := Aside0.mk (blk_below (g := gb313) (bk BK313) hb)
           have n8_ := Aside0.mk (below_step (gw_ HB) hb)
           clear HO_301001
           clear HO309
           clear HO312
           clear HO318
           clear HO322
           clear BK300
           clear BK301
           clear BK313
           clear HB
           have HO_301001 := n0_
           have HO309 := n1_
           have HO312 := n2_
           have HO318 := n3_
           have HO322 := n4_
           have BK300 := n5_
           have BK301 := n6_
           have BK313 := n7_
           have HB := n8_
           clear n0_ n1_ n2_ n3_ n4_ n5_ n6_ n7_ n8_
           (try clear hb)
           (try clear hb2)
           (try clear hk)
           (try clear hi)
           refine hK.out _ _ ⟨(blk_cell BK300.out 0).trans rfl, (blk_cell BK300.out 1).trans rfl, (blk_cell BK313.out 0).trans rfl, (blk_cell BK313.out 1).trans rfl, (blk_cell BK301.out 0).trans rfl, (blk_cell BK301.out 1).trans rfl⟩ (fun hHeld => ?_)
           clear hK K
           refine norm_ (a' := ?_) ?_ ?_
           rotate_left
           ·
            show Act.put _ (some 54) _ = _
            simp only [Act.put, List.setIfInBounds_toArray, List.set_cons_zero, List.set_cons_succ, i64_w, i32_w]
            rfl
           refine one_ (i := 33) (N := some 57) q8_34 rfl rfl (one_of HT_.out (by kernel_rfl)) (by decide) (fun K hK => ?_)
           refine goes_ Try.func14 (by kernel_rfl) rfl #[.agg #[.int .i64 a0_0, .slice Ao63 y310.length co63], .agg #[.int .i64 a1_0, .int .i64 a1_1]] (by rfl) rfl rfl (by (try simp only [List.map_toArray, List.map_cons, List.map_nil]); first | done | rfl | (simp only [List.length_drop, List.length_take]; rfl)) ?_
           with_reducible refine (attr_Waits.calls a0_0 _ _ y310 a1_0 a1_1 t328 _ ?side1 ?side2 A53.out).mono ?_
           (case side1 => repeat (first | exact (Kd.R_reads' HO312.out).2.2 | (with_reducible refine Kd.C_alloc ?_ _) | (with_reducible refine Kd.C_drewN ?_ _) | (with_reducible refine Kd.C_drew ?_)))
           (case side2 => exact (Kd.R_reads' HO312.out).2.1)
           rintro e w78 ⟨rfl, hb⟩
           refine ⟨_, rfl, ?_⟩
           have n0_ := Aside0.mk (Kd.V_below (Kd.vk HO_301001) hb)
           have n1_ := Aside0.mk (Kd.R_below (Kd.rk HO309) hb)
           have n2_ := Aside0.mk (Kd.R_below (Kd.rk HO312) hb)
           have n3_ := Aside0.mk (Kd.N_below (Kd.nk HO318) hb)
           have n4_ := Aside0.mk (Kd.R_below (Kd.rk HO322) hb)
           have n5_ := Aside0.mk (blk_below (g := gb300) (bk BK300) hb)
           have n6_ := Aside0.mk (blk_below (g := gb301) (bk BK301) hb)
           have n7_ := Aside0.mk (blk_below (g := gb313) (bk BK313) hb)
           have n8_ := Aside0.mk (below_step (gw_ HB) hb)
           clear HO_301001
           clear HO309
           clear HO312
           clear HO318
           clear HO322
           clear BK300
           clear BK301
           clear BK313
           clear HB
           have HO_301001 := n0_
           have HO309 := n1_
           have HO312 := n2_
           have HO318 := n3_
           have HO322 := n4_
           have BK300 := n5_
           have BK301 := n6_
           have BK313 := n7_
           have HB := n8_
           clear n0_ n1_ n2_ n3_ n4_ n5_ n6_ n7_ n8_
           (try clear hb)
           (try clear hb2)
           (try clear hk)
           (try clear hi)
           refine hK.out _ _ ⟨(blk_cell BK300.out 0).trans rfl, (blk_cell BK300.out 1).trans rfl, (blk_cell BK313.out 0).trans rfl, (blk_cell BK313.out 1).trans rfl, (blk_cell BK301.out 0).trans rfl, (blk_cell BK301.out 1).trans rfl⟩ (fun hHeld => ?_)
           clear hK K
           refine norm_ (a' := ?_) ?_ ?_
           rotate_left
           ·
            show Act.put _ (some 57) _ = _
            simp only [Act.put, List.setIfInBounds_toArray, List.set_cons_zero, List.set_cons_succ, i64_w, i32_w]
            rfl
           refine pure_ (i := 34) (N := some 58) (v := ?_) (a' := ?_) q8_35 rfl rfl (any_of HT_.out (by kernel_rfl)) (fun _ _ _ h => h) (Or.inl ⟨by rfl, ?_⟩) ?_ ?_
           rotate_left
           ·
            intro w'
            go_simp
            with_reducible rfl
           rotate_left
           ·
            simp only [Act.put, List.setIfInBounds_toArray, List.set_cons_zero, List.set_cons_succ, i64_w, i32_w]
            rfl
           refine pure_ (i := 35) (N := some 59) (v := ?_) (a' := ?_) q8_36 rfl rfl (any_of HT_.out (by kernel_rfl)) (fun _ _ _ h => h) (Or.inl ⟨by rfl, ?_⟩) ?_ ?_
           rotate_left
           ·
            intro w'
            go_simp
            with_reducible rfl
           rotate_left
           ·
            simp only [Act.put, List.setIfInBounds_toArray, List.set_cons_zero, List.set_cons_succ, i64_w, i32_w]
            rfl
           refine pure_ (i := 36) (N := some 4) (v := ?_) (a' := ?_) q8_37 rfl rfl (any_of HT_.out (by kernel_rfl)) (fun _ _ _ h => h) (Or.inl ⟨by rfl, ?_⟩) ?_ ?_
           rotate_left
           ·
            intro w'
            go_simp
            with_reducible rfl
           rotate_left
           ·
            simp only [Act.put, List.setIfInBounds_toArray, List.set_cons_zero, List.set_cons_succ, i64_w, i32_w]
            rfl
           refine done_ (done_of HT_.out (by kernel_rfl)) ?_
           try go_wp2
           go_ret
           exact ⟨by first | rfl | (simp [errW_none, errW_some] <;> rfl) | (simp [*, errW_none, errW_some] <;> rfl), gw_ HB⟩
        ·
         replace c22 := Bool.eq_false_iff.mpr c22
         subst c22
         have H1 : (some false) = some r := by rw [if_neg (show ¬ (false = true) by decide)] at H; exact H
         clear H
         have H := H1
         clear H1
         exact absurd (Option.some.inj H) (by rw [HRT.out]; decide)
       ·
        replace c19 := Bool.eq_false_iff.mpr c19
        subst c19
        have H1 : (some false) = some r := by rw [if_neg (show ¬ (false = true) by decide)] at H; exact H
        clear H
        have H := H1
        clear H1
        exact absurd (Option.some.inj H) (by rw [HRT.out]; decide)
      ·
       replace c17 := Bool.eq_false_iff.mpr c17
       subst c17
       have H1 : (some false) = some r := by rw [if_neg (show ¬ (false = true) by decide)] at H; exact H
       clear H
       have H := H1
       clear H1
       exact absurd (Option.some.inj H) (by rw [HRT.out]; decide)
     ·
      rw [if_neg c15] at H
      exact absurd H (by simp)
    ·
     rw [if_neg c14] at H
     exact absurd H (by simp)

end Go.Proofs.Ytolfjfepehmfgaa.P
