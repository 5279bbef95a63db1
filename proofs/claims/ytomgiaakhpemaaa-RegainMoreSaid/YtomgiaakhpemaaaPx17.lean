/- Plain Lean functions and their contracts over the translation, written by a program of this session (myprint.py, over the kit's print); no condition but each contract's own. -/
import Derived.Test.YtomgiaakhpemaaaPx0
import Derived.Test.YtomgiaakhpemaaaPx7
import Derived.Test.YtomgiaakhpemaaaPx8
import Derived.Test.YtomgiaakhpemaaaPx10
import Derived.Test.YtomgiaakhpemaaaPx15
namespace Go.Proofs.Ytomgiaakhpemaaa.P
open Go.RowKit Go.Proofs.YtomgiaakhpemaaaW.PrintWords Go.Proofs.YtomgiaakhpemaaaW.PrintLast Go.Proofs.YtomgiaakhpemaaaW.PrintMore
attribute [local go_sem] max2_int min2_int max_two min_two max_three min_three max_four min_four   -- for this text's walks alone
set_option linter.unusedVariables false
set_option linter.unusedSimpArgs false

abbrev q7_0 : Array Bool := #[false, false, false, false, false, false, false, false, false, false, false, false]
abbrev q7_1 : Array Bool := #[true, false, false, false, false, false, false, false, false, false, false, false]
abbrev q7_2 : Array Bool := #[true, true, false, false, false, false, false, false, false, false, false, false]
abbrev q7_3 : Array Bool := #[true, true, true, false, false, false, false, false, false, false, false, false]
abbrev q7_4 : Array Bool := #[true, true, true, true, false, false, false, false, false, false, false, false]
abbrev q7_5 : Array Bool := #[true, true, true, true, true, false, false, false, false, false, false, false]
abbrev q7_6 : Array Bool := #[true, true, true, true, true, false, true, false, false, false, false, false]
abbrev q7_7 : Array Bool := #[true, true, true, true, true, true, true, false, false, false, false, false]
abbrev q7_8 : Array Bool := #[true, true, true, true, true, true, true, true, false, false, false, false]
abbrev q7_9 : Array Bool := #[true, true, true, true, true, true, true, true, true, false, false, false]
abbrev q7_10 : Array Bool := #[true, true, true, true, true, true, true, true, true, true, false, false]
abbrev q7_11 : Array Bool := #[true, true, true, true, true, true, true, true, true, true, true, false]
abbrev q7_12 : Array Bool := #[true, true, true, true, true, true, true, true, true, true, true, true]
mutual
def colloquylaw10_RegainMore.j0 : Nat → Int → Int → List (S35) → Bool → Bool → Int → Int → Int → Int → Int → Int → Int → Int → Int → Int → Int → ByteArray → Int → List Int → Option (Bool)
 | 0, _, _, _, _, _, _, _, _, _, _, _, _, _, _, _, _, _, _, _ => none
 | k + 1, x0, x1, x2, x9, x45, x373000, x373001, x373002, x373003, x373004, x373005, x373006, x373007, x373008, x373009, x373010, x373011, x373012, x373013 => if x45 = true then (some x9) else ((some (([(⟨x373000, (⟨x373001, (⟨x373002, x373003⟩ : S26), (⟨x373004, x373005⟩ : S26), (⟨x373006, x373007, x373008, x373009, x373010, x373011⟩ : S28), (⟨x373012, x373013⟩ : S31)⟩ : S33)⟩ : S35)] : List (S35)) : List (S35))).bind fun y375 => (if y375.length + x2.length < 1034834473200 then (colloquylaw10_RegainMore.l0 k x0 x1 x2 (y375 ++ x2) 0 x373000 x373001 x373002 x373003 x373004 x373005 x373006 x373007 x373008 x373009 x373010 x373011 x373012 x373013) else (none)))
def colloquylaw10_RegainMore.l0 : Nat → Int → Int → List (S35) → List (S35) → Int → Int → Int → Int → Int → Int → Int → Int → Int → Int → Int → Int → ByteArray → Int → List Int → Option (Bool)
 | 0, _, _, _, _, _, _, _, _, _, _, _, _, _, _, _, _, _, _, _ => none
 | k + 1, x0, x1, x2, x11, x12, x373000, x373001, x373002, x373003, x373004, x373005, x373006, x373007, x373008, x373009, x373010, x373011, x373012, x373013 => if x12 < (x2.length : Int) then (if 0 ≤ x12 then (if x11.length < 1034834473200 then (colloquylaw10_RegainMore.l0 k x0 x1 x2 (x11 ++ [(⟨(rd_T35 x2 x12).f0, (⟨x373001, (⟨x373002, x373003⟩ : S26), (⟨x373004, x373005⟩ : S26), (⟨x373006, x373007, x373008, x373009, x373010, x373011⟩ : S28), (⟨x373012, x373013⟩ : S31)⟩ : S33)⟩ : S35)]) (wrap64 (x12 + 1)) x373000 x373001 x373002 x373003 x373004 x373005 x373006 x373007 x373008 x373009 x373010 x373011 x373012 x373013) else (none)) else (none)) else ((regain_Decide.f x0 x1 x2).bind fun bt385 => ((regain_Decide.f x0 x1 x11).bind fun bt396 => ((colloquyref10_Same.f k bt385.1 bt385.2.1 bt385.2.2.1 bt385.2.2.2.1 bt385.2.2.2.2.1 bt385.2.2.2.2.2.1 bt385.2.2.2.2.2.2.1 bt385.2.2.2.2.2.2.2.1 bt385.2.2.2.2.2.2.2.2 bt396.1 bt396.2.1 bt396.2.2.1 bt396.2.2.2.1 bt396.2.2.2.2.1 bt396.2.2.2.2.2.1 bt396.2.2.2.2.2.2.1 bt396.2.2.2.2.2.2.2.1 bt396.2.2.2.2.2.2.2.2).bind fun t407 => (if t407 = true then ((regain_Fast.f x0 x1 x2).bind fun t408 => ((regain_Fast.f x0 x1 x11).bind fun t409 => (some (t408 == t409)))) else (some false)))))
end
def colloquylaw10_RegainMore.f (k : Nat) (a0 : Int) (a1 : Int) (l2 : List (S35)) (a3_0 : Int) (a3_1 : Int) (a3_2 : Int) (a3_3 : Int) (a3_4 : Int) (a3_5 : Int) (a3_6 : Int) (a3_7 : Int) (a3_8 : Int) (a3_9 : Int) (a3_10 : Int) (a3_11 : ByteArray) (a3_12 : Int) (l3_13 : List Int) : Option (Bool) := (colloquylaw10_awake.f).bind fun t373 => ((colloquylaw10_few.f k l2).bind fun t374 => (if t373 = true then (if t374 = true then (if (l2.length : Int) > 30 then (colloquylaw10_RegainMore.j0 k a0 a1 l2 t373 true a3_0 a3_1 a3_2 a3_3 a3_4 a3_5 a3_6 a3_7 a3_8 a3_9 a3_10 a3_11 a3_12 l3_13) else (if (l3_13.length : Int) > 50 then (colloquylaw10_RegainMore.j0 k a0 a1 l2 t373 true a3_0 a3_1 a3_2 a3_3 a3_4 a3_5 a3_6 a3_7 a3_8 a3_9 a3_10 a3_11 a3_12 l3_13) else (if a3_0 ≥ 1 then (colloquylaw10_RegainMore.j0 k a0 a1 l2 t373 (decide (a3_0 ≤ 7)) a3_0 a3_1 a3_2 a3_3 a3_4 a3_5 a3_6 a3_7 a3_8 a3_9 a3_10 a3_11 a3_12 l3_13) else (colloquylaw10_RegainMore.j0 k a0 a1 l2 t373 false a3_0 a3_1 a3_2 a3_3 a3_4 a3_5 a3_6 a3_7 a3_8 a3_9 a3_10 a3_11 a3_12 l3_13)))) else (colloquylaw10_RegainMore.j0 k a0 a1 l2 t373 true a3_0 a3_1 a3_2 a3_3 a3_4 a3_5 a3_6 a3_7 a3_8 a3_9 a3_10 a3_11 a3_12 l3_13)) else (colloquylaw10_RegainMore.j0 k a0 a1 l2 t373 true a3_0 a3_1 a3_2 a3_3 a3_4 a3_5 a3_6 a3_7 a3_8 a3_9 a3_10 a3_11 a3_12 l3_13)))
def colloquylaw10_RegainMore.T9 : Bool × List (List Nat × List Nat) := (true, [([], []), ([], []), ([], []), ([1, 2], [1, 2]), ([3], [3]), ([4], [4]), ([], []), ([6], [6]), ([5, 7], [5, 7]), ([8], [8]), ([0, 9], [0, 9]), ([10, 10, 0, 1, 2, 3, 4, 5, 6, 7, 8, 9, 10], [0, 10])])
def colloquylaw10_RegainMore.B9 : List Nat := [0, 0, 0, 6, 14, 30, 0, 64, 254, 510, 1023, 2047]
theorem colloquylaw10_RegainMore.tab9 : rtab .any (opsOf Try.f7 9) = colloquylaw10_RegainMore.T9 := by kernel_rfl
theorem colloquylaw10_RegainMore.bits9 : waitsOk colloquylaw10_RegainMore.T9.2 colloquylaw10_RegainMore.B9 = true := by kernel_rfl
set_option maxHeartbeats 8000000 in
set_option maxRecDepth 100000 in
theorem colloquylaw10_RegainMore.calls (k : Nat) (a0 : Int) (a1 : Int) (P2_ : Nat → Prop) (A2 : Option Addr) (c2 : Nat) (l2 : List (S35)) (a3_0 : Int) (a3_1 : Int) (a3_2 : Int) (a3_3 : Int) (a3_4 : Int) (a3_5 : Int) (a3_6 : Int) (a3_7 : Int) (a3_8 : Int) (a3_9 : Int) (a3_10 : Int) (a3_11 : ByteArray) (a3_12 : Int) (P3_13_ : Nat → Prop) (A3_13 : Option Addr) (c3_13 : Nat) (l3_13 : List Int) (r : Bool) (w : World) (hs2 : Kd.V k35 35 w w.heap.size (fun k_ => P2_ k_) (.slice A2 l2.length c2) l2) (hs3_13 : Kd.V (Kd.int .i64) 3 w w.heap.size (fun k_ => P3_13_ k_) (.slice A3_13 l3_13.length c3_13) l3_13) (hrt : r = true) (h : colloquylaw10_RegainMore.f k a0 a1 l2 a3_0 a3_1 a3_2 a3_3 a3_4 a3_5 a3_6 a3_7 a3_8 a3_9 a3_10 a3_11 a3_12 l3_13 = some r) :
  Calls Try.prog 7 #[.int .i64 a0, .int .i64 a1, .slice A2 l2.length c2, .agg #[.int .i64 a3_0, .int .i64 a3_1, .int .i64 a3_2, .int .i64 a3_3, .int .i64 a3_4, .int .i64 a3_5, .int .i64 a3_6, .int .i64 a3_7, .int .i64 a3_8, .int .i64 a3_9, .int .i64 a3_10, .string a3_11, .int .i64 a3_12, .slice A3_13 l3_13.length c3_13]] w fun e w' => e = .returned (.bool r) ∧ Below w.heap.size w w' := by
 have hu35 := Try.underlying35
 have hu33 := Try.underlying33
 have HRT := Aside0.mk hrt
 clear hrt
 have HO2 := Aside0.mk (show Kd.V k35 35 w w.heap.size (fun k_ => ((P2_ k_ ∨ P3_13_ k_) ∨ w.heap.size ≤ k_)) (.slice A2 l2.length c2) l2 from Kd.V_mono hs2 (fun k_ hk => .inl (.inl hk)))
 have HO3_13 := Aside0.mk (show Kd.V (Kd.int .i64) 3 w w.heap.size (fun k_ => ((P2_ k_ ∨ P3_13_ k_) ∨ w.heap.size ≤ k_)) (.slice A3_13 l3_13.length c3_13) l3_13 from Kd.V_mono hs3_13 (fun k_ hk => .inl (.inr hk)))
 have HB := Aside0.mk (Below.refl w.heap.size w)
 have H : ((colloquylaw10_awake.f).bind fun t373 => ((colloquylaw10_few.f k l2).bind fun t374 => (if t373 = true then (if t374 = true then (if (l2.length : Int) > 30 then (colloquylaw10_RegainMore.j0 k a0 a1 l2 t373 true a3_0 a3_1 a3_2 a3_3 a3_4 a3_5 a3_6 a3_7 a3_8 a3_9 a3_10 a3_11 a3_12 l3_13) else (if (l3_13.length : Int) > 50 then (colloquylaw10_RegainMore.j0 k a0 a1 l2 t373 true a3_0 a3_1 a3_2 a3_3 a3_4 a3_5 a3_6 a3_7 a3_8 a3_9 a3_10 a3_11 a3_12 l3_13) else (if a3_0 ≥ 1 then (colloquylaw10_RegainMore.j0 k a0 a1 l2 t373 (decide (a3_0 ≤ 7)) a3_0 a3_1 a3_2 a3_3 a3_4 a3_5 a3_6 a3_7 a3_8 a3_9 a3_10 a3_11 a3_12 l3_13) else (colloquylaw10_RegainMore.j0 k a0 a1 l2 t373 false a3_0 a3_1 a3_2 a3_3 a3_4 a3_5 a3_6 a3_7 a3_8 a3_9 a3_10 a3_11 a3_12 l3_13)))) else (colloquylaw10_RegainMore.j0 k a0 a1 l2 t373 true a3_0 a3_1 a3_2 a3_3 a3_4 a3_5 a3_6 a3_7 a3_8 a3_9 a3_10 a3_11 a3_12 l3_13)) else (colloquylaw10_RegainMore.j0 k a0 a1 l2 t373 true a3_0 a3_1 a3_2 a3_3 a3_4 a3_5 a3_6 a3_7 a3_8 a3_9 a3_10 a3_11 a3_12 l3_13)))) = some r := h
 clear h
 replace H := Option.bind_eq_some_iff.mp H
 obtain ⟨t373, A50, H⟩ := H
 replace H : ((colloquylaw10_few.f k l2).bind fun t374 => (if t373 = true then (if t374 = true then (if (l2.length : Int) > 30 then (colloquylaw10_RegainMore.j0 k a0 a1 l2 t373 true a3_0 a3_1 a3_2 a3_3 a3_4 a3_5 a3_6 a3_7 a3_8 a3_9 a3_10 a3_11 a3_12 l3_13) else (if (l3_13.length : Int) > 50 then (colloquylaw10_RegainMore.j0 k a0 a1 l2 t373 true a3_0 a3_1 a3_2 a3_3 a3_4 a3_5 a3_6 a3_7 a3_8 a3_9 a3_10 a3_11 a3_12 l3_13) else (if a3_0 ≥ 1 then (colloquylaw10_RegainMore.j0 k a0 a1 l2 t373 (decide (a3_0 ≤ 7)) a3_0 a3_1 a3_2 a3_3 a3_4 a3_5 a3_6 a3_7 a3_8 a3_9 a3_10 a3_11 a3_12 l3_13) else (colloquylaw10_RegainMore.j0 k a0 a1 l2 t373 false a3_0 a3_1 a3_2 a3_3 a3_4 a3_5 a3_6 a3_7 a3_8 a3_9 a3_10 a3_11 a3_12 l3_13)))) else (colloquylaw10_RegainMore.j0 k a0 a1 l2 t373 true a3_0 a3_1 a3_2 a3_3 a3_4 a3_5 a3_6 a3_7 a3_8 a3_9 a3_10 a3_11 a3_12 l3_13)) else (colloquylaw10_RegainMore.j0 k a0 a1 l2 t373 true a3_0 a3_1 a3_2 a3_3 a3_4 a3_5 a3_6 a3_7 a3_8 a3_9 a3_10 a3_11 a3_12 l3_13))) = some r := H
 have A5 := Aside0.mk A50
 clear A50
 replace H := Option.bind_eq_some_iff.mp H
 obtain ⟨t374, A60, H⟩ := H
 replace H : (if t373 = true then (if t374 = true then (if (l2.length : Int) > 30 then (colloquylaw10_RegainMore.j0 k a0 a1 l2 t373 true a3_0 a3_1 a3_2 a3_3 a3_4 a3_5 a3_6 a3_7 a3_8 a3_9 a3_10 a3_11 a3_12 l3_13) else (if (l3_13.length : Int) > 50 then (colloquylaw10_RegainMore.j0 k a0 a1 l2 t373 true a3_0 a3_1 a3_2 a3_3 a3_4 a3_5 a3_6 a3_7 a3_8 a3_9 a3_10 a3_11 a3_12 l3_13) else (if a3_0 ≥ 1 then (colloquylaw10_RegainMore.j0 k a0 a1 l2 t373 (decide (a3_0 ≤ 7)) a3_0 a3_1 a3_2 a3_3 a3_4 a3_5 a3_6 a3_7 a3_8 a3_9 a3_10 a3_11 a3_12 l3_13) else (colloquylaw10_RegainMore.j0 k a0 a1 l2 t373 false a3_0 a3_1 a3_2 a3_3 a3_4 a3_5 a3_6 a3_7 a3_8 a3_9 a3_10 a3_11 a3_12 l3_13)))) else (colloquylaw10_RegainMore.j0 k a0 a1 l2 t373 true a3_0 a3_1 a3_2 a3_3 a3_4 a3_5 a3_6 a3_7 a3_8 a3_9 a3_10 a3_11 a3_12 l3_13)) else (colloquylaw10_RegainMore.j0 k a0 a1 l2 t373 true a3_0 a3_1 a3_2 a3_3 a3_4 a3_5 a3_6 a3_7 a3_8 a3_9 a3_10 a3_11 a3_12 l3_13)) = some r := H
 have A6 := Aside0.mk A60
 clear A60
 have HC7 := Aside0.mk H
 clear H
 go_enter Try.func7, Try.ntmps7
 go_upto_region 3 with (first | ((with_reducible refine gate_dst (N := 7) rfl ?_); (try (refine gate_guard (by rfl) ?_; dsimp only)); refine box_event ?hg (N := 7) ?hd (cs := #[.int .i64 a3_0, .int .i64 a3_1, .int .i64 a3_2, .int .i64 a3_3, .int .i64 a3_4, .int .i64 a3_5, .int .i64 a3_6, .int .i64 a3_7, .int .i64 a3_8, .int .i64 a3_9, .int .i64 a3_10, .string a3_11, .int .i64 a3_12, .slice A3_13 l3_13.length c3_13]) (t := 35) ?hr ?_; (case hd => rfl); (case hg => rfl); (case hr => first | (go_simp; done) | (go_simp; rfl)); intro gb372 hg w8 hbox hb; have n0_ := Aside0.mk (Kd.V_below (Kd.V_elderB (Kd.vk HO2) gb372 (Nat.le_of_eq hg.symm)) hb); have n1_ := Aside0.mk (Kd.V_below (Kd.V_elderB (Kd.vk HO3_13) gb372 (Nat.le_of_eq hg.symm)) hb); have s_ := step_size_ (gw_ HB) hb hg; have n2_ := Aside0.mk s_.1; have n3_ := Aside0.mk (hbox); have n4_ := Aside0.mk s_.2; clear s_; have n5_ := n4_; clear HO2; clear HO3_13; clear HB; have HO2 := n0_; have HO3_13 := n1_; have HB := n2_; have BK372 := n3_; have GW372 := n4_; have GE372 := n5_; clear n0_ n1_ n2_ n3_ n4_ n5_; clear hb hbox hg) | ((with_reducible refine gate_callee (f := 8) rfl ?_); refine goesL_ (some 14) rfl rfl Try.func8 (by kernel_rfl) rfl #[] rfl (by (try simp only [List.map_toArray, List.map_cons, List.map_nil]); first | done | rfl | (simp only [List.length_drop, List.length_take]; rfl)) ?_; (with_reducible refine (colloquylaw10_awake.calls  t373 _ A5.out).mono ?_); rintro e w9 ⟨rfl, hb⟩; refine ⟨_, rfl, ?_⟩; have n0_ := Aside0.mk (Kd.V_below (Kd.vk HO2) hb); have n1_ := Aside0.mk (Kd.V_below (Kd.vk HO3_13) hb); have n2_ := Aside0.mk (blk_below (g := gb372) (bk BK372) hb); have n3_ := Aside0.mk (below_step (gw_ HB) hb); clear HO2; clear HO3_13; clear BK372; clear HB; have HO2 := n0_; have HO3_13 := n1_; have BK372 := n2_; have HB := n3_; clear n0_ n1_ n2_ n3_; (try clear hb); (try clear hb2); (try clear hk); (try clear hi)) | ((with_reducible refine gate_callee (f := 9) rfl ?_); refine goesL_ (some 16) rfl rfl Try.func9 (by kernel_rfl) rfl #[.slice A2 l2.length c2] rfl (by (try simp only [List.map_toArray, List.map_cons, List.map_nil]); first | done | rfl | (simp only [List.length_drop, List.length_take]; rfl)) ?_; (with_reducible refine (colloquylaw10_few.calls k _ _ l2 t374 _ ?side1 ?side2 A6.out).mono ?_); (case side1 => repeat (first | exact (Kd.V_reads' HO2.out).2.2 | (with_reducible refine Kd.C_alloc ?_ _) | (with_reducible refine Kd.C_drewN ?_ _) | (with_reducible refine Kd.C_drew ?_))); (case side2 => exact (Kd.V_reads' HO2.out).2.1); rintro e w' ⟨rfl, ⟨nd, rfl⟩⟩; refine ⟨_, rfl, ?_⟩))
 (try simp only [Act.put, List.setIfInBounds_toArray, List.set_cons_zero, List.set_cons_succ])
 go_cut [45] (fun v45 wc => ∃ (kq : Nat) (x45_6 : Bool), v45 = .bool x45_6 ∧ Aside0 (colloquylaw10_RegainMore.j0 kq a0 a1 l2 t373 x45_6 a3_0 a3_1 a3_2 a3_3 a3_4 a3_5 a3_6 a3_7 a3_8 a3_9 a3_10 a3_11 a3_12 l3_13 = some r) ∧ Aside0 (kq ≤ k) ∧ Aside0 (Kd.V k35 35 wc w.heap.size (fun k_ => ((P2_ k_ ∨ P3_13_ k_) ∨ w.heap.size ≤ k_) ∧ k_ ≠ gb372) (.slice A2 l2.length c2) l2) ∧ Aside0 (Kd.V (Kd.int .i64) 3 wc w.heap.size (fun k_ => ((P2_ k_ ∨ P3_13_ k_) ∨ w.heap.size ≤ k_) ∧ k_ ≠ gb372) (.slice A3_13 l3_13.length c3_13) l3_13) ∧ Aside0 (wc.heap[gb372]? = some (.cells #[.int .i64 a3_0, .int .i64 a3_1, .int .i64 a3_2, .int .i64 a3_3, .int .i64 a3_4, .int .i64 a3_5, .int .i64 a3_6, .int .i64 a3_7, .int .i64 a3_8, .int .i64 a3_9, .int .i64 a3_10, .string a3_11, .int .i64 a3_12, (.slice A3_13 l3_13.length c3_13)] 35 (0, 0))) ∧ Aside0 (Below w.heap.size w wc))
 case first =>
  have H := HC7.out
  clear HC7
  by_cases c10 : t373 = true
  ·
   subst c10
   have H1 : (if t374 = true then (if (l2.length : Int) > 30 then (colloquylaw10_RegainMore.j0 k a0 a1 l2 true true a3_0 a3_1 a3_2 a3_3 a3_4 a3_5 a3_6 a3_7 a3_8 a3_9 a3_10 a3_11 a3_12 l3_13) else (if (l3_13.length : Int) > 50 then (colloquylaw10_RegainMore.j0 k a0 a1 l2 true true a3_0 a3_1 a3_2 a3_3 a3_4 a3_5 a3_6 a3_7 a3_8 a3_9 a3_10 a3_11 a3_12 l3_13) else (if a3_0 ≥ 1 then (colloquylaw10_RegainMore.j0 k a0 a1 l2 true (decide (a3_0 ≤ 7)) a3_0 a3_1 a3_2 a3_3 a3_4 a3_5 a3_6 a3_7 a3_8 a3_9 a3_10 a3_11 a3_12 l3_13) else (colloquylaw10_RegainMore.j0 k a0 a1 l2 true false a3_0 a3_1 a3_2 a3_3 a3_4 a3_5 a3_6 a3_7 a3_8 a3_9 a3_10 a3_11 a3_12 l3_13)))) else (colloquylaw10_RegainMore.j0 k a0 a1 l2 true true a3_0 a3_1 a3_2 a3_3 a3_4 a3_5 a3_6 a3_7 a3_8 a3_9 a3_10 a3_11 a3_12 l3_13)) = some r := by rw [if_pos rfl] at H; exact H
   clear H
   have H := H1
   clear H1
   by_cases c11 : t374 = true
   ·
    subst c11
    have H1 : (if (l2.length : Int) > 30 then (colloquylaw10_RegainMore.j0 k a0 a1 l2 true true a3_0 a3_1 a3_2 a3_3 a3_4 a3_5 a3_6 a3_7 a3_8 a3_9 a3_10 a3_11 a3_12 l3_13) else (if (l3_13.length : Int) > 50 then (colloquylaw10_RegainMore.j0 k a0 a1 l2 true true a3_0 a3_1 a3_2 a3_3 a3_4 a3_5 a3_6 a3_7 a3_8 a3_9 a3_10 a3_11 a3_12 l3_13) else (if a3_0 ≥ 1 then (colloquylaw10_RegainMore.j0 k a0 a1 l2 true (decide (a3_0 ≤ 7)) a3_0 a3_1 a3_2 a3_3 a3_4 a3_5 a3_6 a3_7 a3_8 a3_9 a3_10 a3_11 a3_12 l3_13) else (colloquylaw10_RegainMore.j0 k a0 a1 l2 true false a3_0 a3_1 a3_2 a3_3 a3_4 a3_5 a3_6 a3_7 a3_8 a3_9 a3_10 a3_11 a3_12 l3_13)))) = some r := by rw [if_pos rfl] at H; exact H
    clear H
    have H := H1
    clear H1
    by_cases c12 : (l2.length : Int) > 30
    ·
     rw [if_pos c12] at H
     have c12b0 : decide (30 < (l2.length : Int)) = true := decide_eq_true c12
     have c12b1 : decide (30 < l2.length) = true := decide_eq_true (by omega)
     clear c12
     (first | rw [c12b0] | (simp only [i64_w, i32_w]; rw [c12b0]) | skip)
     have H' := Aside0.mk H
     clear H
     go_wp2
     go_meet
     case rel => exact ⟨_, (true), (by first | rfl | (simp; done) | (simp [*]; done)), H', ⟨by first | omega | exact Nat.le_refl _⟩, ⟨by (with_reducible repeat (first | apply Kd.V_alloc | apply Kd.V_drewN | apply Kd.V_drew)); exact HO2.out⟩, ⟨by (with_reducible repeat (first | apply Kd.V_alloc | apply Kd.V_drewN | apply Kd.V_drew)); exact HO3_13.out⟩, ⟨by (with_reducible repeat (first | refine blk_drewN ?_ _ | refine blk_drew ?_ | refine blk_alloc ?_ _)); exact BK372.out⟩, ⟨gw_ HB⟩⟩
    ·
     rw [if_neg c12] at H
     have c12b0 : decide (30 < (l2.length : Int)) = false := decide_eq_false c12
     have c12b1 : decide (30 < l2.length) = false := decide_eq_false (by omega)
     clear c12
     (first | rw [c12b0] | (simp only [i64_w, i32_w]; rw [c12b0]) | skip)
     by_cases c13 : (l3_13.length : Int) > 50
     ·
      rw [if_pos c13] at H
      have c13b0 : decide (50 < (l3_13.length : Int)) = true := decide_eq_true c13
      have c13b1 : decide (50 < l3_13.length) = true := decide_eq_true (by omega)
      clear c13
      have H' := Aside0.mk H
      clear H
      obtain ⟨hcz14_0, hcz14_1, hcz14_2, hcz14_3, hcz14_4, hcz14_5, hcz14_6, hcz14_7, hcz14_8, hcz14_9, hcz14_10, hcz14_11, hcz14_12, hcz14_13⟩ := blk_cells14 BK372.out
      obtain ⟨hfz14_0, hfz14_1, hfz14_2, hfz14_3, hfz14_4, hfz14_5, hfz14_6, hfz14_7, hfz14_8, hfz14_9, hfz14_10, hfz14_11, hfz14_12, hfz14_13⟩ := blk_frozens14 BK372.out
      go_wp2
      go_meet
      case rel => exact ⟨_, (true), (by first | rfl | (simp; done) | (simp [*]; done)), H', ⟨by first | omega | exact Nat.le_refl _⟩, ⟨by (with_reducible repeat (first | apply Kd.V_alloc | apply Kd.V_drewN | apply Kd.V_drew)); exact HO2.out⟩, ⟨by (with_reducible repeat (first | apply Kd.V_alloc | apply Kd.V_drewN | apply Kd.V_drew)); exact HO3_13.out⟩, ⟨by (with_reducible repeat (first | refine blk_drewN ?_ _ | refine blk_drew ?_ | refine blk_alloc ?_ _)); exact BK372.out⟩, ⟨gw_ HB⟩⟩
     ·
      rw [if_neg c13] at H
      have c13b0 : decide (50 < (l3_13.length : Int)) = false := decide_eq_false c13
      have c13b1 : decide (50 < l3_13.length) = false := decide_eq_false (by omega)
      clear c13
      by_cases c15 : a3_0 ≥ 1
      ·
       rw [if_pos c15] at H
       have c15b0 : decide (1 ≤ a3_0) = true := decide_eq_true c15
       clear c15
       have H' := Aside0.mk H
       clear H
       obtain ⟨hcz16_0, hcz16_1, hcz16_2, hcz16_3, hcz16_4, hcz16_5, hcz16_6, hcz16_7, hcz16_8, hcz16_9, hcz16_10, hcz16_11, hcz16_12, hcz16_13⟩ := blk_cells14 BK372.out
       obtain ⟨hfz16_0, hfz16_1, hfz16_2, hfz16_3, hfz16_4, hfz16_5, hfz16_6, hfz16_7, hfz16_8, hfz16_9, hfz16_10, hfz16_11, hfz16_12, hfz16_13⟩ := blk_frozens14 BK372.out
       go_wp2
       go_meet
       case rel => exact ⟨_, (decide (a3_0 ≤ 7)), (by first | rfl | (simp; done) | (simp [*]; done)), H', ⟨by first | omega | exact Nat.le_refl _⟩, ⟨by (with_reducible repeat (first | apply Kd.V_alloc | apply Kd.V_drewN | apply Kd.V_drew)); exact HO2.out⟩, ⟨by (with_reducible repeat (first | apply Kd.V_alloc | apply Kd.V_drewN | apply Kd.V_drew)); exact HO3_13.out⟩, ⟨by (with_reducible repeat (first | refine blk_drewN ?_ _ | refine blk_drew ?_ | refine blk_alloc ?_ _)); exact BK372.out⟩, ⟨gw_ HB⟩⟩
      ·
       rw [if_neg c15] at H
       have c15b0 : decide (1 ≤ a3_0) = false := decide_eq_false c15
       clear c15
       have H' := Aside0.mk H
       clear H
       obtain ⟨hcz17_0, hcz17_1, hcz17_2, hcz17_3, hcz17_4, hcz17_5, hcz17_6, hcz17_7, hcz17_8, hcz17_9, hcz17_10, hcz17_11, hcz17_12, hcz17_13⟩ := blk_cells14 BK372.out
       obtain ⟨hfz17_0, hfz17_1, hfz17_2, hfz17_3, hfz17_4, hfz17_5, hfz17_6, hfz17_7, hfz17_8, hfz17_9, hfz17_10, hfz17_11, hfz17_12, hfz17_13⟩ := blk_frozens14 BK372.out
       go_wp2
       go_meet
       case rel => exact ⟨_, (false), (by first | rfl | (simp; done) | (simp [*]; done)), H', ⟨by first | omega | exact Nat.le_refl _⟩, ⟨by (with_reducible repeat (first | apply Kd.V_alloc | apply Kd.V_drewN | apply Kd.V_drew)); exact HO2.out⟩, ⟨by (with_reducible repeat (first | apply Kd.V_alloc | apply Kd.V_drewN | apply Kd.V_drew)); exact HO3_13.out⟩, ⟨by (with_reducible repeat (first | refine blk_drewN ?_ _ | refine blk_drew ?_ | refine blk_alloc ?_ _)); exact BK372.out⟩, ⟨gw_ HB⟩⟩
   ·
    replace c11 := Bool.eq_false_iff.mpr c11
    subst c11
    have H1 : (colloquylaw10_RegainMore.j0 k a0 a1 l2 true true a3_0 a3_1 a3_2 a3_3 a3_4 a3_5 a3_6 a3_7 a3_8 a3_9 a3_10 a3_11 a3_12 l3_13) = some r := by rw [if_neg (show ¬ (false = true) by decide)] at H; exact H
    clear H
    have H := H1
    clear H1
    have H' := Aside0.mk H
    clear H
    go_wp2
    go_meet
    case rel => exact ⟨_, (true), (by first | rfl | (simp; done) | (simp [*]; done)), H', ⟨by first | omega | exact Nat.le_refl _⟩, ⟨by (with_reducible repeat (first | apply Kd.V_alloc | apply Kd.V_drewN | apply Kd.V_drew)); exact HO2.out⟩, ⟨by (with_reducible repeat (first | apply Kd.V_alloc | apply Kd.V_drewN | apply Kd.V_drew)); exact HO3_13.out⟩, ⟨by (with_reducible repeat (first | refine blk_drewN ?_ _ | refine blk_drew ?_ | refine blk_alloc ?_ _)); exact BK372.out⟩, ⟨gw_ HB⟩⟩
  ·
   replace c10 := Bool.eq_false_iff.mpr c10
   subst c10
   have H1 : (colloquylaw10_RegainMore.j0 k a0 a1 l2 false true a3_0 a3_1 a3_2 a3_3 a3_4 a3_5 a3_6 a3_7 a3_8 a3_9 a3_10 a3_11 a3_12 l3_13) = some r := by rw [if_neg (show ¬ (false = true) by decide)] at H; exact H
   clear H
   have H := H1
   clear H1
   have H' := Aside0.mk H
   clear H
   go_wp2
   go_meet
   case rel => exact ⟨_, (true), (by first | rfl | (simp; done) | (simp [*]; done)), H', ⟨by first | omega | exact Nat.le_refl _⟩, ⟨by (with_reducible repeat (first | apply Kd.V_alloc | apply Kd.V_drewN | apply Kd.V_drew)); exact HO2.out⟩, ⟨by (with_reducible repeat (first | apply Kd.V_alloc | apply Kd.V_drewN | apply Kd.V_drew)); exact HO3_13.out⟩, ⟨by (with_reducible repeat (first | refine blk_drewN ?_ _ | refine blk_drew ?_ | refine blk_alloc ?_ _)); exact BK372.out⟩, ⟨gw_ HB⟩⟩
 case rest =>
  clear HC7
  try clear c1
  try clear c2
  try clear p2
  try clear c3
  try clear c7
  try clear c8
  try clear c9
  try clear c10
  try clear c11
  try clear c12
  try clear c12b0
  try clear c12b1
  try clear c13
  try clear c13b0
  try clear c13b1
  try clear c15
  try clear c15b0
  try clear hcz14_0
  try clear hcz14_1
  try clear hcz14_10
  try clear hcz14_11
  try clear hcz14_12
  try clear hcz14_13
  try clear hcz14_2
  try clear hcz14_3
  try clear hcz14_4
  try clear hcz14_5
  try clear hcz14_6
  try clear hcz14_7
  try clear hcz14_8
  try clear hcz14_9
  try clear hcz16_0
  try clear hcz16_1
  try clear hcz16_10
  try clear hcz16_11
  try clear hcz16_12
  try clear hcz16_13
  try clear hcz16_2
  try clear hcz16_3
  try clear hcz16_4
  try clear hcz16_5
  try clear hcz16_6
  try clear hcz16_7
  try clear hcz16_8
  try clear hcz16_9
  try clear hcz17_0
  try clear hcz17_1
  try clear hcz17_10
  try clear hcz17_11
  try clear hcz17_12
  try clear hcz17_13
  try clear hcz17_2
  try clear hcz17_3
  try clear hcz17_4
  try clear hcz17_5
  try clear hcz17_6
  try clear hcz17_7
  try clear hcz17_8
  try clear hcz17_9
  try clear hfz14_0
  try clear hfz14_1
  try clear hfz14_10
  try clear hfz14_11
  try clear hfz14_12
  try clear hfz14_13
  try clear hfz14_2
  try clear hfz14_3
  try clear hfz14_4
  try clear hfz14_5
  try clear hfz14_6
  try clear hfz14_7
  try clear hfz14_8
  try clear hfz14_9
  try clear hfz16_0
  try clear hfz16_1
  try clear hfz16_10
  try clear hfz16_11
  try clear hfz16_12
  try clear hfz16_13
  try clear hfz16_2
  try clear hfz16_3
  try clear hfz16_4
  try clear hfz16_5
  try clear hfz16_6
  try clear hfz16_7
  try clear hfz16_8
  try clear hfz16_9
  try clear hfz17_0
  try clear hfz17_1
  try clear hfz17_10
  try clear hfz17_11
  try clear hfz17_12
  try clear hfz17_13
  try clear hfz17_2
  try clear hfz17_3
  try clear hfz17_4
  try clear hfz17_5
  try clear hfz17_6
  try clear hfz17_7
  try clear hfz17_8
  try clear hfz17_9
  obtain ⟨kq, x45_6, rfl, HA, HJ6, HO_2, HO_373013, BK372, HB⟩ := hcut
  cases kq with
  | zero => exact absurd HA.out (by simp [colloquylaw10_RegainMore.j0])
  | succ kj6 =>
   have H := HA.out
   clear HA
   simp only [colloquylaw10_RegainMore.j0] at H
   by_cases c18 : x45_6 = true
   ·
    subst c18
    have H1 : (some t373) = some r := by rw [if_pos rfl] at H; exact H
    clear H
    have H := H1
    clear H1
    obtain rfl := Option.some.inj H
    go_wp2
    go_ret
    exact ⟨by first | rfl | (simp [errW_none, errW_some] <;> rfl) | (simp [*, errW_none, errW_some] <;> rfl), gw_ HB⟩
   ·
    replace c18 := Bool.eq_false_iff.mpr c18
    subst c18
    have H1 : ((some (([(⟨a3_0, (⟨a3_1, (⟨a3_2, a3_3⟩ : S26), (⟨a3_4, a3_5⟩ : S26), (⟨a3_6, a3_7, a3_8, a3_9, a3_10, a3_11⟩ : S28), (⟨a3_12, l3_13⟩ : S31)⟩ : S33)⟩ : S35)] : List (S35)) : List (S35))).bind fun y375 => (if y375.length + l2.length < 1034834473200 then (colloquylaw10_RegainMore.l0 kj6 a0 a1 l2 (y375 ++ l2) 0 a3_0 a3_1 a3_2 a3_3 a3_4 a3_5 a3_6 a3_7 a3_8 a3_9 a3_10 a3_11 a3_12 l3_13) else (none))) = some r := by rw [if_neg (show ¬ (false = true) by decide)] at H; exact H
    clear H
    have H := H1
    clear H1
    obtain ⟨y375, hy375⟩ : ∃ y_ : List (S35), y_ = (([(⟨a3_0, (⟨a3_1, (⟨a3_2, a3_3⟩ : S26), (⟨a3_4, a3_5⟩ : S26), (⟨a3_6, a3_7, a3_8, a3_9, a3_10, a3_11⟩ : S28), (⟨a3_12, l3_13⟩ : S31)⟩ : S33)⟩ : S35)] : List (S35))) := ⟨_, rfl⟩
    replace H : (if y375.length + l2.length < 1034834473200 then (colloquylaw10_RegainMore.l0 kj6 a0 a1 l2 (y375 ++ l2) 0 a3_0 a3_1 a3_2 a3_3 a3_4 a3_5 a3_6 a3_7 a3_8 a3_9 a3_10 a3_11 a3_12 l3_13) else (none)) = some r := by first | (rw [hy375]; with_reducible exact H) | (have H2_ := (Option.bind_some _ _).symm.trans H; rw [hy375]; with_reducible exact H2_) | (have H2_ := (Option.bind_some _ _).symm.trans H; with_reducible exact H2_) | with_reducible exact H | (rw [hy375]; exact H) | exact H
    have Ny375 := Aside0.mk hy375
    clear hy375
    by_cases c19 : y375.length + l2.length < 1034834473200
    ·
     rw [if_pos c19] at H
     have LMc19 := Aside0.mk c19
     clear c19
     obtain ⟨y378, hy378⟩ : ∃ y_ : List (S35), y_ = (y375 ++ l2) := ⟨_, rfl⟩
     replace H : (colloquylaw10_RegainMore.l0 kj6 a0 a1 l2 y378 0 a3_0 a3_1 a3_2 a3_3 a3_4 a3_5 a3_6 a3_7 a3_8 a3_9 a3_10 a3_11 a3_12 l3_13) = some r := by first | (rw [hy378]; with_reducible exact H) | (have H2_ := (Option.bind_some _ _).symm.trans H; rw [hy378]; with_reducible exact H2_) | (have H2_ := (Option.bind_some _ _).symm.trans H; with_reducible exact H2_) | with_reducible exact H | (rw [hy378]; exact H) | exact H
     have Ny378 := Aside0.mk hy378
     clear hy378
     have H' := Aside0.mk H
     clear H
     obtain ⟨hcz20_0, hcz20_1, hcz20_2, hcz20_3, hcz20_4, hcz20_5, hcz20_6, hcz20_7, hcz20_8, hcz20_9, hcz20_10, hcz20_11, hcz20_12, hcz20_13⟩ := blk_cells14 BK372.out
     obtain ⟨hfz20_0, hfz20_1, hfz20_2, hfz20_3, hfz20_4, hfz20_5, hfz20_6, hfz20_7, hfz20_8, hfz20_9, hfz20_10, hfz20_11, hfz20_12, hfz20_13⟩ := blk_frozens14 BK372.out
     go_wp2_with (first | ((with_reducible refine gate_dst (N := 48) rfl ?_); (try (refine gate_guard (by rfl) ?_; dsimp only)); refine Kd.N_lit k35 _ 35 ?hg (N' := 48) ?hd (xs := ([(⟨a3_0, (⟨a3_1, (⟨a3_2, a3_3⟩ : S26), (⟨a3_4, a3_5⟩ : S26), (⟨a3_6, a3_7, a3_8, a3_9, a3_10, a3_11⟩ : S28), (⟨a3_12, l3_13⟩ : S31)⟩ : S33)⟩ : S35)] : List (S35))) (inner := [.int .i64 a3_0, .int .i64 a3_1, .int .i64 a3_2, .int .i64 a3_3, .int .i64 a3_4, .int .i64 a3_5, .int .i64 a3_6, .int .i64 a3_7, .int .i64 a3_8, .int .i64 a3_9, .int .i64 a3_10, .string a3_11, .int .i64 a3_12, .slice A3_13 l3_13.length c3_13]) (ok := (fun k_ => ((P2_ k_ ∨ P3_13_ k_) ∨ w.heap.size ≤ k_) ∧ k_ ≠ gb372)) (okp := (fun k_ => ((P2_ k_ ∨ P3_13_ k_) ∨ w.heap.size ≤ k_) ∧ k_ ≠ gb372)) ?hr ?hp (fun _ hk => hk) ((show ∀ k_, wc.heap.size ≤ k_ → (fun k_ => ((P2_ k_ ∨ P3_13_ k_) ∨ w.heap.size ≤ k_) ∧ k_ ≠ gb372) k_ from fun k_ hk => ⟨(.inr (Nat.le_trans (below_size (gw_ HB)) hk)), Kd.freshB (g := gb372) (bk BK372) k_ hk⟩) _ (Nat.le_refl _)) (Below.refl _ _) (Nat.le_refl _) (by simp) ?_; (case hd => rfl); (case hg => rfl); (case hr => first | (go_simp; done) | (go_simp; rfl)); (case hp => exact (Reps.front (show Kd.FK k35 _ _ (⟨a3_0, (⟨a3_1, (⟨a3_2, a3_3⟩ : S26), (⟨a3_4, a3_5⟩ : S26), (⟨a3_6, a3_7, a3_8, a3_9, a3_10, a3_11⟩ : S28), (⟨a3_12, l3_13⟩ : S31)⟩ : S33)⟩ : S35) [.int .i64 a3_0, .int .i64 a3_1, .int .i64 a3_2, .int .i64 a3_3, .int .i64 a3_4, .int .i64 a3_5, .int .i64 a3_6, .int .i64 a3_7, .int .i64 a3_8, .int .i64 a3_9, .int .i64 a3_10, .string a3_11, .int .i64 a3_12, .slice A3_13 l3_13.length c3_13] from (k35_mkF _ _ (⟨a3_0, (⟨a3_1, (⟨a3_2, a3_3⟩ : S26), (⟨a3_4, a3_5⟩ : S26), (⟨a3_6, a3_7, a3_8, a3_9, a3_10, a3_11⟩ : S28), (⟨a3_12, l3_13⟩ : S31)⟩ : S33)⟩ : S35) (Kd.V_reads' (Kd.V_mono (ok' := (fun k_ => ((P2_ k_ ∨ P3_13_ k_) ∨ w.heap.size ≤ k_) ∧ k_ ≠ gb372)) (HO_373013.out) (fun k_ hk => ⟨hk.1, hk.2⟩))).2.1 (Kd.V_F (Kd.V_mono (ok' := (fun k_ => ((P2_ k_ ∨ P3_13_ k_) ∨ w.heap.size ≤ k_) ∧ k_ ≠ gb372)) (HO_373013.out) (fun k_ hk => ⟨hk.1, hk.2⟩))))) rfl (Reps.none _ _) rfl)); intro v376 w21 ho22 hb hg_ hnew_; clear hg_ hnew_; (first | rw [← Ny375.out] at ho22 | (simp only [Int.reduceToNat] at ho22; rw [← Ny375.out] at ho22)); have n0_ := Aside0.mk (Kd.V_elder' (Kd.vk HO_2) (Kd.N_base ho22) hb); have n1_ := Aside0.mk (Kd.V_elder' (Kd.vk HO_373013) (Kd.N_base ho22) hb); have n2_ := Aside0.mk (Kd.N_lower ho22 (below_size (gw_ HB))); have n3_ := Aside0.mk (blk_below (g := gb372) (bk BK372) hb); have n4_ := Aside0.mk (below_step (gw_ HB) hb); clear HO_2; clear HO_373013; clear BK372; clear HB; have HO_2 := n0_; have HO_373013 := n1_; have HO377 := n2_; have BK372 := n3_; have HB := n4_; clear n0_ n1_ n2_ n3_ n4_; clear hb ho22) | ((with_reducible refine gate_builtin (b := .append) (xs := #[.tmp 48, .tmp 49]) rfl ?_); (try (refine gate_guard (by rfl) ?_; dsimp only)); at_builtin; refine Kd.N_append_rows k35 (w0 := w) w.heap.size rfl (.tmp 48) (.tmp 49) 22 35 (.agg #[(.int .i64 0), (.int .i64 0), (.int .i64 0), (.int .i64 0), (.int .i64 0), (.int .i64 0), (.int .i64 0), (.int .i64 0), (.int .i64 0), (.int .i64 0), (.int .i64 0), (.string ⟨#[]⟩), (.int .i64 0), (.slice none 0 0)]) 136 rfl Try.underlying22 info35 rfl (by decide) (by omega) v376 y375 l2 _ _ _ (fun k_ => ((P2_ k_ ∨ P3_13_ k_) ∨ w.heap.size ≤ k_) ∧ k_ ≠ gb372) (fun k_ => ((fun k_ => ((P2_ k_ ∨ P3_13_ k_) ∨ w.heap.size ≤ k_) ∧ k_ ≠ gb372)) k_ ∧ some k_ ≠ (v376 : Value).ownBlock) rfl rfl ?aO ?aR (fun _ hk => hk) ?aF ?aB ?aS ?aL ?_; (case aR => exact (by skip; exact Kd.V_F (Kd.V_mono (ok' := (fun k_ => ((fun k_ => ((P2_ k_ ∨ P3_13_ k_) ∨ w.heap.size ≤ k_) ∧ k_ ≠ gb372)) k_ ∧ some k_ ≠ (v376 : Value).ownBlock)) (HO_2.out) (fun k_ hk => ⟨⟨hk.1.1, hk.1.2⟩, hk.2⟩)))); (case aB => exact (gw_ HB)); (case aF => exact (fun k_ hk => ⟨(.inr (Nat.le_trans (below_size (gw_ HB)) hk)), Kd.freshB (g := gb372) (bk BK372) k_ hk⟩)); (case aO => exact (Kd.nk HO377)); (case aS => exact (below_size (gw_ HB))); (case aL => have := LMc19.out; omega); intro v379 w23 ho hb hg hat; rw [← Ny378.out] at ho; have n0_ := Aside0.mk (Kd.V_afterv (ok := (fun k_ => ((P2_ k_ ∨ P3_13_ k_) ∨ w.heap.size ≤ k_) ∧ k_ ≠ gb372)) (Kd.vk HO_2) hg hat); have n1_ := Aside0.mk (Kd.V_afterv (ok := (fun k_ => ((P2_ k_ ∨ P3_13_ k_) ∨ w.heap.size ≤ k_) ∧ k_ ≠ gb372)) (Kd.vk HO_373013) hg hat); have n2_ := Aside0.mk (blk_grown (g := gb372) (bk BK372) hg (Kd.N_away HO377.out (fun _ hk => hk.2))); have n3_ := Aside0.mk (hb); have n4_ := Aside0.mk (ho); clear HO_2; clear HO_373013; clear BK372; clear HB; clear HO377; have HO_2 := n0_; have HO_373013 := n1_; have BK372 := n2_; have HB := n3_; have HO380 := n4_; clear n0_ n1_ n2_ n3_ n4_; clear ho hb hg hat))
     go_loopg [11, 12] kj6 (fun kq v11 v12 w' => ∃ (x11_2 : List (S35)) (x12_2 : Int), v12 = .int .i64 x12_2 ∧ Aside0 (colloquylaw10_RegainMore.l0 kq a0 a1 l2 x11_2 x12_2 a3_0 a3_1 a3_2 a3_3 a3_4 a3_5 a3_6 a3_7 a3_8 a3_9 a3_10 a3_11 a3_12 l3_13 = some r) ∧ Aside0 (kq ≤ kj6) ∧ Aside0 (Kd.V k35 35 w' w.heap.size (fun k_ => ((P2_ k_ ∨ P3_13_ k_) ∨ w.heap.size ≤ k_) ∧ some k_ ≠ (v11 : Value).ownBlock ∧ k_ ≠ gb372) (.slice A2 l2.length c2) l2) ∧ Aside0 (Kd.N k35 35 w' w.heap.size (fun k_ => ((P2_ k_ ∨ P3_13_ k_) ∨ w.heap.size ≤ k_) ∧ k_ ≠ gb372) v11 x11_2) ∧ Aside0 (Kd.V (Kd.int .i64) 3 w' w.heap.size (fun k_ => ((P2_ k_ ∨ P3_13_ k_) ∨ w.heap.size ≤ k_) ∧ some k_ ≠ (v11 : Value).ownBlock ∧ k_ ≠ gb372) (.slice A3_13 l3_13.length c3_13) l3_13) ∧ Aside0 (w'.heap[gb372]? = some (.cells #[.int .i64 a3_0, .int .i64 a3_1, .int .i64 a3_2, .int .i64 a3_3, .int .i64 a3_4, .int .i64 a3_5, .int .i64 a3_6, .int .i64 a3_7, .int .i64 a3_8, .int .i64 a3_9, .int .i64 a3_10, .string a3_11, .int .i64 a3_12, (.slice A3_13 l3_13.length c3_13)] 35 (0, 0))) ∧ Aside0 (Below w.heap.size w w'))
     case atStart => exact ⟨(y378), (0), (by first | rfl | (simp; done) | (simp [*]; done)), H', ⟨Nat.le_refl _⟩, ⟨by (with_reducible repeat (first | apply Kd.V_alloc | apply Kd.V_drewN | apply Kd.V_drew)); exact Kd.V_mono HO_2.out (fun _ hk => ⟨hk.1.1, ⟨hk.2, hk.1.2⟩⟩)⟩, ⟨by (with_reducible repeat (first | apply Kd.N_alloc | apply Kd.N_drewN | apply Kd.N_drew)); exact HO380.out⟩, ⟨by (with_reducible repeat (first | apply Kd.V_alloc | apply Kd.V_drewN | apply Kd.V_drew)); exact Kd.V_mono HO_373013.out (fun _ hk => ⟨hk.1.1, ⟨hk.2, hk.1.2⟩⟩)⟩, ⟨by (with_reducible repeat (first | refine blk_drewN ?_ _ | refine blk_drew ?_ | refine blk_alloc ?_ _)); exact BK372.out⟩, ⟨gw_ HB⟩⟩
     case round =>
      clear H'
      try clear c1
      try clear c2
      try clear p2
      try clear c3
      try clear c7
      try clear c8
      try clear c9
      try clear c10
      try clear c11
      try clear c12
      try clear c12b0
      try clear c12b1
      try clear c13
      try clear c13b0
      try clear c13b1
      try clear c15
      try clear c15b0
      try clear c18
      try clear c19
      try clear hcz14_0
      try clear hcz14_1
      try clear hcz14_10
      try clear hcz14_11
      try clear hcz14_12
      try clear hcz14_13
      try clear hcz14_2
      try clear hcz14_3
      try clear hcz14_4
      try clear hcz14_5
      try clear hcz14_6
      try clear hcz14_7
      try clear hcz14_8
      try clear hcz14_9
      try clear hcz16_0
      try clear hcz16_1
      try clear hcz16_10
      try clear hcz16_11
      try clear hcz16_12
      try clear hcz16_13
      try clear hcz16_2
      try clear hcz16_3
      try clear hcz16_4
      try clear hcz16_5
      try clear hcz16_6
      try clear hcz16_7
      try clear hcz16_8
      try clear hcz16_9
      try clear hcz17_0
      try clear hcz17_1
      try clear hcz17_10
      try clear hcz17_11
      try clear hcz17_12
      try clear hcz17_13
      try clear hcz17_2
      try clear hcz17_3
      try clear hcz17_4
      try clear hcz17_5
      try clear hcz17_6
      try clear hcz17_7
      try clear hcz17_8
      try clear hcz17_9
      try clear hcz20_0
      try clear hcz20_1
      try clear hcz20_10
      try clear hcz20_11
      try clear hcz20_12
      try clear hcz20_13
      try clear hcz20_2
      try clear hcz20_3
      try clear hcz20_4
      try clear hcz20_5
      try clear hcz20_6
      try clear hcz20_7
      try clear hcz20_8
      try clear hcz20_9
      try clear hfz14_0
      try clear hfz14_1
      try clear hfz14_10
      try clear hfz14_11
      try clear hfz14_12
      try clear hfz14_13
      try clear hfz14_2
      try clear hfz14_3
      try clear hfz14_4
      try clear hfz14_5
      try clear hfz14_6
      try clear hfz14_7
      try clear hfz14_8
      try clear hfz14_9
      try clear hfz16_0
      try clear hfz16_1
      try clear hfz16_10
      try clear hfz16_11
      try clear hfz16_12
      try clear hfz16_13
      try clear hfz16_2
      try clear hfz16_3
      try clear hfz16_4
      try clear hfz16_5
      try clear hfz16_6
      try clear hfz16_7
      try clear hfz16_8
      try clear hfz16_9
      try clear hfz17_0
      try clear hfz17_1
      try clear hfz17_10
      try clear hfz17_11
      try clear hfz17_12
      try clear hfz17_13
      try clear hfz17_2
      try clear hfz17_3
      try clear hfz17_4
      try clear hfz17_5
      try clear hfz17_6
      try clear hfz17_7
      try clear hfz17_8
      try clear hfz17_9
      try clear hfz20_0
      try clear hfz20_1
      try clear hfz20_10
      try clear hfz20_11
      try clear hfz20_12
      try clear hfz20_13
      try clear hfz20_2
      try clear hfz20_3
      try clear hfz20_4
      try clear hfz20_5
      try clear hfz20_6
      try clear hfz20_7
      try clear hfz20_8
      try clear hfz20_9
      try clear p2
      obtain ⟨x11_2, x12_2, rfl, HA, HK2, HO_2, HO_11, HO_373013, BK372, HB⟩ := hrel
      cases gk with
      | zero => exact absurd HA.out (by simp [colloquylaw10_RegainMore.l0])
      | succ k2 =>
       have H := HA.out
       clear HA
       simp only [colloquylaw10_RegainMore.l0] at H
       by_cases c24 : x12_2 < (l2.length : Int)
       ·
        rw [if_pos c24] at H
        have c24b0 : decide (x12_2 < (l2.length : Int)) = true := decide_eq_true c24
        clear c24
        by_cases c25 : 0 ≤ x12_2
        ·
         rw [if_pos c25] at H
         have c25b0 : decide (0 ≤ x12_2) = true := decide_eq_true c25
         clear c25
         by_cases c26 : x11_2.length < 1034834473200
         ·
          rw [if_pos c26] at H
          have LMc26 := Aside0.mk c26
          clear c26
          obtain ⟨y382, hy382⟩ : ∃ y_ : List (S35), y_ = (x11_2 ++ [(⟨(rd_T35 l2 x12_2).f0, (⟨a3_1, (⟨a3_2, a3_3⟩ : S26), (⟨a3_4, a3_5⟩ : S26), (⟨a3_6, a3_7, a3_8, a3_9, a3_10, a3_11⟩ : S28), (⟨a3_12, l3_13⟩ : S31)⟩ : S33)⟩ : S35)]) := ⟨_, rfl⟩
          replace H : (colloquylaw10_RegainMore.l0 k2 a0 a1 l2 y382 (wrap64 (x12_2 + 1)) a3_0 a3_1 a3_2 a3_3 a3_4 a3_5 a3_6 a3_7 a3_8 a3_9 a3_10 a3_11 a3_12 l3_13) = some r := by first | (rw [hy382]; with_reducible exact H) | (have H2_ := (Option.bind_some _ _).symm.trans H; rw [hy382]; with_reducible exact H2_) | (have H2_ := (Option.bind_some _ _).symm.trans H; with_reducible exact H2_) | with_reducible exact H | (rw [hy382]; exact H) | exact H
          have Ny382 := Aside0.mk hy382
          clear hy382
          have H' := Aside0.mk H
          clear H
          try go_wp2
          have n0_ := Aside0.mk (Kd.V_drew HO_2.out)
          have n1_ := Aside0.mk (Kd.N_drew HO_11.out)
          have n2_ := Aside0.mk (Kd.V_drew HO_373013.out)
          have n3_ := Aside0.mk (blk_drew BK372.out)
          have n4_ := Aside0.mk (below_drew1 HB.out)
          clear HO_2
          clear HO_11
          clear HO_373013
          clear BK372
          clear HB
          have HO_2 := n0_
          have HO_11 := n1_
          have HO_373013 := n2_
          have BK372 := n3_
          have HB := n4_
          clear n0_ n1_ n2_ n3_ n4_
          have p381 : 0 ≤ (x12_2 : Int) := of_decide_eq_true (by first | (with_reducible assumption) | assumption)
          have q381 : x12_2 < (l2.length : Int) := of_decide_eq_true (by first | (with_reducible assumption) | assumption)
          obtain ⟨ad381, A381_13, c381_13, e381, hx381_0, hx381_1, hx381_2, hx381_3, hx381_4, hx381_5, hx381_6, hx381_7, hx381_8, hx381_9, hx381_10, hx381_11, hx381_12, hx381_13, hl381_13, hi381_13⟩ := at_T35 (Kd.V_reads' HO_2.out).2.2 x12_2 p381 q381
          cases e381
          obtain ⟨ce381, hce381, hMe381, hcc381⟩ := Kd.V_get HO_2.out z35 x12_2 p381 (by first | exact q381 | exact of_decide_eq_true (by first | (with_reducible assumption) | assumption) | (have e_ := (Kd.V_reads' HO_2.out).1; omega))
          obtain ⟨ua381_13, uc381_13, rfl, ul381_13, ge381_13⟩ := k35_openF hMe381
          have hv381_13 := hcc381 13 _ rfl
          rw [add_field _ _ 13 (by omega)] at hv381_13
          replace hv381_13 := Option.some.inj (hv381_13.symm.trans hx381_13)
          injection hv381_13 with hva_ hvn_ hvc_
          rw [hva_] at ge381_13
          rw [hvc_] at ul381_13
          have HL381_13 := Aside0.mk (show Kd.V (Kd.int .i64) 3 _ w.heap.size _ _ ((rd_T35 l2 x12_2).f1.f4.f1) from Kd.V_mk ul381_13 ge381_13)
          clear hva_ hvn_ hvc_ ge381_13 ul381_13
          clear hcc381 hce381
          have HR381_13 := Aside0.mk hi381_13
          have HC381_13 := Aside0.mk hl381_13
          clear hi381_13 hl381_13
          replace p381 := eq_true p381
          replace q381 := eq_true q381
          refine start_ (n := 12) (S := fun w' => w'.cell? ⟨gb372, 0, none⟩ = some (.int .i64 a3_0) ∧ w'.cell? ⟨gb372, 1, none⟩ = some (.int .i64 a3_1) ∧ w'.cell? ⟨gb372, 2, none⟩ = some (.int .i64 a3_2) ∧ w'.cell? ⟨gb372, 3, none⟩ = some (.int .i64 a3_3) ∧ w'.cell? ⟨gb372, 4, none⟩ = some (.int .i64 a3_4) ∧ w'.cell? ⟨gb372, 5, none⟩ = some (.int .i64 a3_5) ∧ w'.cell? ⟨gb372, 6, none⟩ = some (.int .i64 a3_6) ∧ w'.cell? ⟨gb372, 7, none⟩ = some (.int .i64 a3_7) ∧ w'.cell? ⟨gb372, 8, none⟩ = some (.int .i64 a3_8) ∧ w'.cell? ⟨gb372, 9, none⟩ = some (.int .i64 a3_9) ∧ w'.cell? ⟨gb372, 10, none⟩ = some (.int .i64 a3_10) ∧ w'.cell? ⟨gb372, 11, none⟩ = some (.string a3_11) ∧ w'.cell? ⟨gb372, 12, none⟩ = some (.int .i64 a3_12) ∧ w'.cell? ⟨gb372, 13, none⟩ = some (.slice A3_13 l3_13.length c3_13) ∧ w'.cell? (ad381.add ((x12_2).toNat * 14)) = some (.int .i64 ((rd_T35 l2 x12_2).f0)) ∧ w'.cell? ⟨(ad381.add ((x12_2).toNat * 14)).block, (ad381.add ((x12_2).toNat * 14)).off + 1, none⟩ = some (.int .i64 ((rd_T35 l2 x12_2).f1.f0)) ∧ w'.cell? ⟨(ad381.add ((x12_2).toNat * 14)).block, (ad381.add ((x12_2).toNat * 14)).off + 2, none⟩ = some (.int .i64 ((rd_T35 l2 x12_2).f1.f1.f0)) ∧ w'.cell? ⟨(ad381.add ((x12_2).toNat * 14)).block, (ad381.add ((x12_2).toNat * 14)).off + 3, none⟩ = some (.int .i64 ((rd_T35 l2 x12_2).f1.f1.f1)) ∧ w'.cell? ⟨(ad381.add ((x12_2).toNat * 14)).block, (ad381.add ((x12_2).toNat * 14)).off + 4, none⟩ = some (.int .i64 ((rd_T35 l2 x12_2).f1.f2.f0)) ∧ w'.cell? ⟨(ad381.add ((x12_2).toNat * 14)).block, (ad381.add ((x12_2).toNat * 14)).off + 5, none⟩ = some (.int .i64 ((rd_T35 l2 x12_2).f1.f2.f1)) ∧ w'.cell? ⟨(ad381.add ((x12_2).toNat * 14)).block, (ad381.add ((x12_2).toNat * 14)).off + 6, none⟩ = some (.int .i64 ((rd_T35 l2 x12_2).f1.f3.f0)) ∧ w'.cell? ⟨(ad381.add ((x12_2).toNat * 14)).block, (ad381.add ((x12_2).toNat * 14)).off + 7, none⟩ = some (.int .i64 ((rd_T35 l2 x12_2).f1.f3.f1)) ∧ w'.cell? ⟨(ad381.add ((x12_2).toNat * 14)).block, (ad381.add ((x12_2).toNat * 14)).off + 8, none⟩ = some (.int .i64 ((rd_T35 l2 x12_2).f1.f3.f2)) ∧ w'.cell? ⟨(ad381.add ((x12_2).toNat * 14)).block, (ad381.add ((x12_2).toNat * 14)).off + 9, none⟩ = some (.int .i64 ((rd_T35 l2 x12_2).f1.f3.f3)) ∧ w'.cell? ⟨(ad381.add ((x12_2).toNat * 14)).block, (ad381.add ((x12_2).toNat * 14)).off + 10, none⟩ = some (.int .i64 ((rd_T35 l2 x12_2).f1.f3.f4)) ∧ w'.cell? ⟨(ad381.add ((x12_2).toNat * 14)).block, (ad381.add ((x12_2).toNat * 14)).off + 11, none⟩ = some (.string ((rd_T35 l2 x12_2).f1.f3.f5)) ∧ w'.cell? ⟨(ad381.add ((x12_2).toNat * 14)).block, (ad381.add ((x12_2).toNat * 14)).off + 12, none⟩ = some (.int .i64 ((rd_T35 l2 x12_2).f1.f4.f0)) ∧ w'.cell? ⟨(ad381.add ((x12_2).toNat * 14)).block, (ad381.add ((x12_2).toNat * 14)).off + 13, none⟩ = some (.slice A381_13 ((rd_T35 l2 x12_2).f1.f4.f1).length c381_13)) (ds := [9, 10]) q7_0 (by kernel_rfl) rfl rfl ⟨(blk_cell BK372.out 0).trans rfl, (blk_cell BK372.out 1).trans rfl, (blk_cell BK372.out 2).trans rfl, (blk_cell BK372.out 3).trans rfl, (blk_cell BK372.out 4).trans rfl, (blk_cell BK372.out 5).trans rfl, (blk_cell BK372.out 6).trans rfl, (blk_cell BK372.out 7).trans rfl, (blk_cell BK372.out 8).trans rfl, (blk_cell BK372.out 9).trans rfl, (blk_cell BK372.out 10).trans rfl, (blk_cell BK372.out 11).trans rfl, (blk_cell BK372.out 12).trans rfl, (blk_cell BK372.out 13).trans rfl, hx381_0, hx381_1, hx381_2, hx381_3, hx381_4, hx381_5, hx381_6, hx381_7, hx381_8, hx381_9, hx381_10, hx381_11, hx381_12, hx381_13⟩ (fun hHeld => ?_); refine with_tabW colloquylaw10_RegainMore.tab9 colloquylaw10_RegainMore.bits9 (fun HT_ HW_ => ?_)
          generalize wr.drew = w27 at HO_2 HO_11 HO_373013 BK372 HB HL381_13 HR381_13 hx381_0 hx381_1 hx381_10 hx381_11 hx381_12 hx381_13 hx381_2 hx381_3 hx381_4 hx381_5 hx381_6 hx381_7 hx381_8 hx381_9 hHeld ⊢
          refine pure_ (i := 0) (N := some 57) (v := ?_) (a' := ?_) q7_1 rfl rfl (any_of HT_.out (by kernel_rfl)) (fun _ _ _ h => h) (Or.inl ⟨by rfl, ?_⟩) ?_ ?_
          rotate_left
          ·
           intro w'
           go_simp
           with_reducible rfl
          rotate_left
          ·
           simp only [Act.put, List.setIfInBounds_toArray, List.set_cons_zero, List.set_cons_succ, i64_w, i32_w]
           rfl
          refine pure_ (i := 1) (N := some 58) (v := ?_) (a' := ?_) q7_2 rfl rfl (any_of HT_.out (by kernel_rfl)) (fun _ _ _ h => h) (Or.inl ⟨by rfl, ?_⟩) ?_ ?_
          rotate_left
          ·
           intro w'
           go_simp
           with_reducible rfl
          rotate_left
          ·
           simp only [Act.put, List.setIfInBounds_toArray, List.set_cons_zero, List.set_cons_succ, i64_w, i32_w]
           rfl
          refine pure_ (i := 2) (N := some 59) (v := ?_) (a' := ?_) q7_3 rfl rfl (any_of HT_.out (by kernel_rfl)) (fun _ _ _ h => h) (Or.inl ⟨by rfl, ?_⟩) ?_ ?_
          rotate_left
          ·
           intro w'
           go_simp
           with_reducible rfl
          rotate_left
          ·
           simp only [Act.put, List.setIfInBounds_toArray, List.set_cons_zero, List.set_cons_succ, i64_w, i32_w]
           rfl
          refine pure_ (i := 3) (N := some 60) (v := ?_) (a' := ?_) q7_4 rfl rfl (any_of HT_.out (by kernel_rfl)) (fun _ _ _ h => h) (Or.inl ⟨by rfl, ?_⟩) ?_ ?_
          rotate_left
          ·
           intro w'
           go_simp
           with_reducible rfl
          rotate_left
          ·
           simp only [Act.put, List.setIfInBounds_toArray, List.set_cons_zero, List.set_cons_succ, i64_w, i32_w]
           rfl
          refine pure_ (i := 4) (N := some 61) (v := ?_) (a' := ?_) q7_5 rfl rfl (any_of HT_.out (by kernel_rfl)) (fun _ _ _ h => h) (Or.inl ⟨by rfl, ?_⟩) ?_ ?_
          rotate_left
          ·
           intro w'
           go_simp
           with_reducible rfl
          rotate_left
          ·
           simp only [Act.put, List.setIfInBounds_toArray, List.set_cons_zero, List.set_cons_succ, i64_w, i32_w]
           rfl
          refine pure_ (i := 6) (N := some 63) (v := ?_) (a' := ?_) q7_6 rfl rfl (any_of HT_.out (by kernel_rfl)) (fun _ _ _ h => h) (Or.inl ⟨by rfl, ?_⟩) ?_ ?_
          rotate_left
          ·
           intro w'
           go_simp
           with_reducible rfl
          rotate_left
          ·
           simp only [Act.put, List.setIfInBounds_toArray, List.set_cons_zero, List.set_cons_succ, i64_w, i32_w]
           rfl
          refine take_ (i := 5) (N := some 62) (v := ?_) (a' := ?_) q7_7 rfl rfl (take_ofW HT_.out HW_.out (by kernel_rfl)) (fun _ _ _ h => h) (Or.inl ⟨by rfl, ?_⟩) hHeld ?_ ?_
          rotate_left
          ·
           rintro w' ⟨s0, s1, s2, s3, s4, s5, s6, s7, s8, s9, s10, s11, s12, s13, s14, s15, s16, s17, s18, s19, s20, s21, s22, s23, s24, s25, s26, s27⟩
           go_simp
           with_reducible rfl
          rotate_left
          ·
           simp only [Act.put, List.setIfInBounds_toArray, List.set_cons_zero, List.set_cons_succ, i64_w, i32_w]
           rfl
          refine take_ (i := 7) (N := some 64) (v := ?_) (a' := ?_) q7_8 rfl rfl (take_ofW HT_.out HW_.out (by kernel_rfl)) (fun _ _ _ h => h) (Or.inl ⟨by rfl, ?_⟩) hHeld ?_ ?_
          rotate_left
          ·
           rintro w' ⟨s0, s1, s2, s3, s4, s5, s6, s7, s8, s9, s10, s11, s12, s13, s14, s15, s16, s17, s18, s19, s20, s21, s22, s23, s24, s25, s26, s27⟩
           go_simp
           with_reducible rfl
          rotate_left
          ·
           simp only [Act.put, List.setIfInBounds_toArray, List.set_cons_zero, List.set_cons_succ, i64_w, i32_w]
           rfl
          refine pure_ (i := 8) (N := some 65) (v := ?_) (a' := ?_) q7_9 rfl rfl (any_of HT_.out (by kernel_rfl)) (fun _ _ _ h => h) (Or.inl ⟨by rfl, ?_⟩) ?_ ?_
          rotate_left
          ·
           intro w'
           go_simp
           with_reducible rfl
          rotate_left
          ·
           simp only [Act.put, List.setIfInBounds_toArray, List.set_cons_zero, List.set_cons_succ, i64_w, i32_w]
           rfl
          refine last_ (i := 9) (N := some 66) q7_10 rfl rfl (one_of HT_.out (by kernel_rfl)) (by decide) (fun K hK => ?_)
          refine value_ (w1 := ?_) (v := ?_) (by rfl) rfl ?_ ?_
          rotate_left 2
          ·
           go_simp
           constructor
           ·
            rfl
           ·
            rfl
          refine hK.out _ _ ?_
          clear hK K
          refine norm_ (a' := ?_) ?_ ?_
          rotate_left
          ·
           show Act.put _ (some 66) _ = _
           simp only [Act.put, List.setIfInBounds_toArray, List.set_cons_zero, List.set_cons_succ, i64_w, i32_w]
           rfl
          refine last_ (i := 10) (N := some 67) q7_11 rfl rfl (one_of HT_.out (by kernel_rfl)) (by decide) (fun K hK => ?_)
          refine Kd.N_append_step k35 (w0 := w) w.heap.size (by rfl) (.tmp 57) (.tmp 66) 22 35 (.agg #[(.int .i64 0), (.int .i64 0), (.int .i64 0), (.int .i64 0), (.int .i64 0), (.int .i64 0), (.int .i64 0), (.int .i64 0), (.int .i64 0), (.int .i64 0), (.int .i64 0), (.string ⟨#[]⟩), (.int .i64 0), (.slice none 0 0)]) 136 rfl Try.underlying22 info35 rfl (by decide) (by omega) u11 x11_2 (⟨(rd_T35 l2 x12_2).f0, (⟨a3_1, (⟨a3_2, a3_3⟩ : S26), (⟨a3_4, a3_5⟩ : S26), (⟨a3_6, a3_7, a3_8, a3_9, a3_10, a3_11⟩ : S28), (⟨a3_12, l3_13⟩ : S31)⟩ : S33)⟩ : S35) [.int .i64 ((rd_T35 l2 x12_2).f0), .int .i64 a3_1, .int .i64 a3_2, .int .i64 a3_3, .int .i64 a3_4, .int .i64 a3_5, .int .i64 a3_6, .int .i64 a3_7, .int .i64 a3_8, .int .i64 a3_9, .int .i64 a3_10, .string a3_11, .int .i64 a3_12, .slice A3_13 l3_13.length c3_13] (fun k_ => ((P2_ k_ ∨ P3_13_ k_) ∨ w.heap.size ≤ k_) ∧ k_ ≠ gb372) (fun k_ => ((fun k_ => ((P2_ k_ ∨ P3_13_ k_) ∨ w.heap.size ≤ k_) ∧ k_ ≠ gb372)) k_ ∧ some k_ ≠ (u11 : Value).ownBlock) rfl rfl ?aP (fun _ hk => hk) ?aF ?aO ?aB ?aS ?aL ?_
          (case aP => exact (k35_mkF _ _ (⟨(rd_T35 l2 x12_2).f0, (⟨a3_1, (⟨a3_2, a3_3⟩ : S26), (⟨a3_4, a3_5⟩ : S26), (⟨a3_6, a3_7, a3_8, a3_9, a3_10, a3_11⟩ : S28), (⟨a3_12, l3_13⟩ : S31)⟩ : S33)⟩ : S35) (Kd.V_reads' (Kd.V_mono (ok' := (fun k_ => ((fun k_ => ((P2_ k_ ∨ P3_13_ k_) ∨ w.heap.size ≤ k_) ∧ k_ ≠ gb372)) k_ ∧ some k_ ≠ (u11 : Value).ownBlock)) (HO_373013.out) (fun k_ hk => ⟨⟨hk.1, hk.2.2⟩, hk.2.1⟩))).2.1 (Kd.V_F (Kd.V_mono (ok' := (fun k_ => ((fun k_ => ((P2_ k_ ∨ P3_13_ k_) ∨ w.heap.size ≤ k_) ∧ k_ ≠ gb372)) k_ ∧ some k_ ≠ (u11 : Value).ownBlock)) (HO_373013.out) (fun k_ hk => ⟨⟨hk.1, hk.2.2⟩, hk.2.1⟩)))))
          (case aB => exact (gw_ HB))
          (case aF => exact (fun k_ hk => ⟨(.inr (Nat.le_trans (below_size (gw_ HB)) hk)), Kd.freshB (g := gb372) (bk BK372) k_ hk⟩))
          (case aO => exact (Kd.nk HO_11))
          (case aS => exact (below_size (gw_ HB)))
          (case aL => have := LMc26.out; omega)
          intro v383 w28 ho hb hg hat
          rw [← Ny382.out] at ho
          have n0_ := Aside0.mk (Kd.V_afterv (ok := (fun k_ => ((P2_ k_ ∨ P3_13_ k_) ∨ w.heap.size ≤ k_) ∧ k_ ≠ gb372)) (by (with_reducible repeat (first | apply Kd.V_alloc | apply Kd.V_drewN | apply Kd.V_drew)); exact Kd.V_mono HO_2.out (fun _ hk => ⟨⟨hk.1, hk.2.2⟩, hk.2.1⟩)) hg hat)
          have n1_ := Aside0.mk (Kd.V_afterv (ok := (fun k_ => ((P2_ k_ ∨ P3_13_ k_) ∨ w.heap.size ≤ k_) ∧ k_ ≠ gb372)) (by (with_reducible repeat (first | apply Kd.V_alloc | apply Kd.V_drewN | apply Kd.V_drew)); exact Kd.V_mono HO_373013.out (fun _ hk => ⟨⟨hk.1, hk.2.2⟩, hk.2.1⟩)) hg hat)
          have n2_ := Aside0.mk (blk_grown (g := gb372) (bk BK372) hg (Kd.N_away HO_11.out (fun _ hk => hk.2)))
          have n3_ := Aside0.mk (Kd.V_afterv (ok := (fun k_ => ((P2_ k_ ∨ P3_13_ k_) ∨ w.heap.size ≤ k_) ∧ k_ ≠ gb372)) (by (with_reducible repeat (first | apply Kd.V_alloc | apply Kd.V_drewN | apply Kd.V_drew)); exact Kd.V_mono HL381_13.out (fun _ hk => ⟨⟨hk.1, hk.2.2⟩, hk.2.1⟩)) hg hat)
          have n4_ := Aside0.mk (hb)
          have n5_ := Aside0.mk (ho)
          clear HO_2
          clear HO_373013
          clear BK372
          clear HL381_13
          clear HB
          clear HO_11
          have HO_2 := n0_
          have HO_373013 := n1_
          have BK372 := n2_
          have HL381_13 := n3_
          have HB := n4_
          have HO384 := n5_
          clear n0_ n1_ n2_ n3_ n4_ n5_
          clear ho hb hg hat
          refine hK.out _ _ ?_
          clear hK K
          refine norm_ (a' := ?_) ?_ ?_
          rotate_left
          ·
           show Act.put _ (some 67) _ = _
           simp only [Act.put, List.setIfInBounds_toArray, List.set_cons_zero, List.set_cons_succ, i64_w, i32_w]
           rfl
          refine pure_ (i := 11) (N := some 11) (v := ?_) (a' := ?_) q7_12 rfl rfl (any_of HT_.out (by kernel_rfl)) (fun _ _ _ h => h) (Or.inl ⟨by rfl, ?_⟩) ?_ ?_
          rotate_left
          ·
           intro w'
           go_simp
           with_reducible rfl
          rotate_left
          ·
           simp only [Act.put, List.setIfInBounds_toArray, List.set_cons_zero, List.set_cons_succ, i64_w, i32_w]
           rfl
          refine done_ (done_of HT_.out (by kernel_rfl)) ?_
          try go_wp2
          go_roundg k2
          case measure => have := HJ6.out; have := HK2.out; omega
          case rel => exact ⟨(y382), (wrap64 (x12_2 + 1)), (by first | rfl | (simp; done) | (simp [*]; done)), H', ⟨by have := HJ6.out; have := HK2.out; omega⟩, ⟨by (with_reducible repeat (first | apply Kd.V_alloc | apply Kd.V_drewN | apply Kd.V_drew)); exact Kd.V_mono HO_2.out (fun _ hk => ⟨hk.1.1, ⟨hk.2, hk.1.2⟩⟩)⟩, ⟨by (with_reducible repeat (first | apply Kd.N_alloc | apply Kd.N_drewN | apply Kd.N_drew)); exact HO384.out⟩, ⟨by (with_reducible repeat (first | apply Kd.V_alloc | apply Kd.V_drewN | apply Kd.V_drew)); exact Kd.V_mono HO_373013.out (fun _ hk => ⟨hk.1.1, ⟨hk.2, hk.1.2⟩⟩)⟩, ⟨by (with_reducible repeat (first | refine blk_drewN ?_ _ | refine blk_drew ?_ | refine blk_alloc ?_ _)); exact BK372.out⟩, ⟨gw_ HB⟩⟩
         ·
          rw [if_neg c26] at H
          exact absurd H (by simp)
        ·
         rw [if_neg c25] at H
         exact absurd H (by simp)
       ·
        rw [if_neg c24] at H
        have c24b0 : decide (x12_2 < (l2.length : Int)) = false := decide_eq_false c24
        clear c24
        replace H := Option.bind_eq_some_iff.mp H
        obtain ⟨⟨t385, t386, t387, t388, t389, t390, t391, t392, t393⟩, A290, H⟩ := H
        replace H : ((regain_Decide.f a0 a1 x11_2).bind fun bt396 => ((colloquyref10_Same.f k2 t385 t386 t387 t388 t389 t390 t391 t392 t393 bt396.1 bt396.2.1 bt396.2.2.1 bt396.2.2.2.1 bt396.2.2.2.2.1 bt396.2.2.2.2.2.1 bt396.2.2.2.2.2.2.1 bt396.2.2.2.2.2.2.2.1 bt396.2.2.2.2.2.2.2.2).bind fun t407 => (if t407 = true then ((regain_Fast.f a0 a1 l2).bind fun t408 => ((regain_Fast.f a0 a1 x11_2).bind fun t409 => (some (t408 == t409)))) else (some false)))) = some r := H
        have A29 := Aside0.mk A290
        clear A290
        replace H := Option.bind_eq_some_iff.mp H
        obtain ⟨⟨t396, t397, t398, t399, t400, t401, t402, t403, t404⟩, A300, H⟩ := H
        replace H : ((colloquyref10_Same.f k2 t385 t386 t387 t388 t389 t390 t391 t392 t393 t396 t397 t398 t399 t400 t401 t402 t403 t404).bind fun t407 => (if t407 = true then ((regain_Fast.f a0 a1 l2).bind fun t408 => ((regain_Fast.f a0 a1 x11_2).bind fun t409 => (some (t408 == t409)))) else (some false))) = some r := H
        have A30 := Aside0.mk A300
        clear A300
        replace H := Option.bind_eq_some_iff.mp H
        obtain ⟨t407, A310, H⟩ := H
        replace H : (if t407 = true then ((regain_Fast.f a0 a1 l2).bind fun t408 => ((regain_Fast.f a0 a1 x11_2).bind fun t409 => (some (t408 == t409)))) else (some false)) = some r := H
        have A31 := Aside0.mk A310
        clear A310
        by_cases c32 : t407 = true
        ·
         subst c32
         have H1 : ((regain_Fast.f a0 a1 l2).bind fun t408 => ((regain_Fast.f a0 a1 x11_2).bind fun t409 => (some (t408 == t409)))) = some r := by rw [if_pos rfl] at H; exact H
         clear H
         have H := H1
         clear H1
         replace H := Option.bind_eq_some_iff.mp H
         obtain ⟨t408, A330, H⟩ := H
         replace H : ((regain_Fast.f a0 a1 x11_2).bind fun t409 => (some (t408 == t409))) = some r := H
         have A33 := Aside0.mk A330
         clear A330
         replace H := Option.bind_eq_some_iff.mp H
         obtain ⟨t409, A340, H⟩ := H
         replace H : (some (t408 == t409)) = some r := H
         have A34 := Aside0.mk A340
         clear A340
         obtain rfl := Option.some.inj H
         go_wp2_with (first | ((with_reducible refine gate_callee (f := 10) rfl ?_); refine goesL_ (some 71) rfl rfl Try.func10 (by kernel_rfl) rfl #[.int .i64 a0, .int .i64 a1, .slice A2 l2.length c2] rfl (by (try simp only [List.map_toArray, List.map_cons, List.map_nil]); first | done | rfl | (simp only [List.length_drop, List.length_take]; rfl)) ?_; (with_reducible refine (regain_Decide.calls a0 a1 _ _ l2 t385 t386 t387 t388 t389 t390 t391 t392 t393 _ ?side1 ?side2 A29.out).mono ?_); (case side1 => repeat (first | exact (Kd.V_reads' HO_2.out).2.2 | (with_reducible refine Kd.C_alloc ?_ _) | (with_reducible refine Kd.C_drewN ?_ _) | (with_reducible refine Kd.C_drew ?_))); (case side2 => exact (Kd.V_reads' HO_2.out).2.1); rintro e w35 ⟨v394, rfl, ho0, hb⟩; refine ⟨_, rfl, ?_⟩; have n0_ := Aside0.mk (Kd.V_elder' (Kd.vk HO_2) (Kd.R_base ho0) hb); have n1_ := Aside0.mk (Kd.N_elder' (Kd.nk HO_11) (Kd.R_base ho0) hb); have n2_ := Aside0.mk (Kd.V_elder' (Kd.vk HO_373013) (Kd.R_base ho0) hb); have n3_ := Aside0.mk (Kd.R_lower (Kd.R_newM (M := fun k_ => (w.heap.size ≤ k_)) ho0 (below_size (gw_ HB)) (fun k_ h_ => h_)) (below_size (gw_ HB))); have n4_ := Aside0.mk (blk_below (g := gb372) (bk BK372) hb); have n5_ := Aside0.mk (below_step (gw_ HB) hb); clear HO_2; clear HO_11; clear HO_373013; clear BK372; clear HB; have HO_2 := n0_; have HO_11 := n1_; have HO_373013 := n2_; have HO395 := n3_; have BK372 := n4_; have HB := n5_; clear n0_ n1_ n2_ n3_ n4_ n5_; (try clear hb); (try clear hb2); (try clear hk); (try clear hi); (try clear ho0); obtain ⟨Ao36, co36, eo36⟩ := Kd.N_slice HO_11.out; subst eo36) | ((with_reducible refine gate_callee (f := 10) rfl ?_); refine goesL_ (some 75) rfl rfl Try.func10 (by kernel_rfl) rfl #[.int .i64 a0, .int .i64 a1, .slice Ao36 x11_2.length co36] rfl (by (try simp only [List.map_toArray, List.map_cons, List.map_nil]); first | done | rfl | (simp only [List.length_drop, List.length_take]; rfl)) ?_; (with_reducible refine (regain_Decide.calls a0 a1 _ _ x11_2 t396 t397 t398 t399 t400 t401 t402 t403 t404 _ ?side1 ?side2 A30.out).mono ?_); (case side1 => repeat (first | exact (Kd.N_reads' HO_11.out).2.2 | (with_reducible refine Kd.C_alloc ?_ _) | (with_reducible refine Kd.C_drewN ?_ _) | (with_reducible refine Kd.C_drew ?_))); (case side2 => exact (Kd.N_reads' HO_11.out).2.1); rintro e w37 ⟨v405, rfl, ho0, hb⟩; refine ⟨_, rfl, ?_⟩; have n0_ := Aside0.mk (Kd.V_elder' (Kd.vk HO_2) (Kd.R_base ho0) hb); have n1_ := Aside0.mk (Kd.N_elder' (Kd.nk HO_11) (Kd.R_base ho0) hb); have n2_ := Aside0.mk (Kd.V_elder' (Kd.vk HO_373013) (Kd.R_base ho0) hb); have n3_ := Aside0.mk (Kd.R_elder' (Kd.rk HO395) (Kd.R_base ho0) hb); have n4_ := Aside0.mk (Kd.R_lower (Kd.R_new' (Kd.R_newM (M := fun k_ => (w.heap.size ≤ k_)) ho0 (below_size (gw_ HB)) (fun k_ h_ => h_)) (Kd.R_lt (Kd.rk HO395))) (below_size (gw_ HB))); have n5_ := Aside0.mk (blk_below (g := gb372) (bk BK372) hb); have n6_ := Aside0.mk (below_step (gw_ HB) hb); clear HO_2; clear HO_11; clear HO_373013; clear HO395; clear BK372; clear HB; have HO_2 := n0_; have HO_11 := n1_; have HO_373013 := n2_; have HO395 := n3_; have HO406 := n4_; have BK372 := n5_; have HB := n6_; clear n0_ n1_ n2_ n3_ n4_ n5_ n6_; (try clear hb); (try clear hb2); (try clear hk); (try clear hi); (try clear ho0); obtain ⟨Ao38, co38, eo38⟩ := Kd.R_slice HO395.out; subst eo38; obtain ⟨Ao39, co39, eo39⟩ := Kd.R_slice HO406.out; subst eo39) | ((with_reducible refine gate_callee (f := 12) rfl ?_); refine goesL_ (some 76) rfl rfl Try.func12 (by kernel_rfl) rfl #[.agg #[.int .i64 t385, .int .i64 t386, .int .i64 t387, .int .i64 t388, .int .i64 t389, .int .i64 t390, .string t391, .int .i64 t392, .slice Ao38 t393.length co38], .agg #[.int .i64 t396, .int .i64 t397, .int .i64 t398, .int .i64 t399, .int .i64 t400, .int .i64 t401, .string t402, .int .i64 t403, .slice Ao39 t404.length co39]] rfl (by (try simp only [List.map_toArray, List.map_cons, List.map_nil]); first | done | rfl | (simp only [List.length_drop, List.length_take]; rfl)) ?_; (with_reducible refine (colloquyref10_Same.calls k2 t385 t386 t387 t388 t389 t390 t391 t392 _ _ t393 t396 t397 t398 t399 t400 t401 t402 t403 _ _ t404 true _ ?side1 ?side2 ?side3 ?side4 A31.out).mono ?_); (case side1 => repeat (first | exact (Kd.R_reads' HO395.out).2.2 | (with_reducible refine Kd.C_alloc ?_ _) | (with_reducible refine Kd.C_drewN ?_ _) | (with_reducible refine Kd.C_drew ?_))); (case side2 => exact (Kd.R_reads' HO395.out).2.1); (case side3 => repeat (first | exact (Kd.R_reads' HO406.out).2.2 | (with_reducible refine Kd.C_alloc ?_ _) | (with_reducible refine Kd.C_drewN ?_ _) | (with_reducible refine Kd.C_drew ?_))); (case side4 => exact (Kd.R_reads' HO406.out).2.1); rintro e w40 ⟨rfl, hb⟩; refine ⟨_, rfl, ?_⟩; have n0_ := Aside0.mk (Kd.V_below (Kd.vk HO_2) hb); have n1_ := Aside0.mk (Kd.N_below (Kd.nk HO_11) hb); have n2_ := Aside0.mk (Kd.V_below (Kd.vk HO_373013) hb); have n3_ := Aside0.mk (Kd.R_below (Kd.rk HO395) hb); have n4_ := Aside0.mk (Kd.R_below (Kd.rk HO406) hb); have n5_ := Aside0.mk (blk_below (g := gb372) (bk BK372) hb); have n6_ := Aside0.mk (below_step (gw_ HB) hb); clear HO_2; clear HO_11; clear HO_373013; clear HO395; clear HO406; clear BK372; clear HB; have HO_2 := n0_; have HO_11 := n1_; have HO_373013 := n2_; have HO395 := n3_; have HO406 := n4_; have BK372 := n5_; have HB := n6_; clear n0_ n1_ n2_ n3_ n4_ n5_ n6_; (try clear hb); (try clear hb2); (try clear hk); (try clear hi)) | (go_at_call 15; (with_reducible refine (regain_Fast.calls a0 a1 _ _ l2 t408 _ ?side1 ?side2 A33.out).mono ?_); (case side1 => repeat (first | exact (Kd.V_reads' HO_2.out).2.2 | (with_reducible refine Kd.C_alloc ?_ _) | (with_reducible refine Kd.C_drewN ?_ _) | (with_reducible refine Kd.C_drew ?_))); (case side2 => exact (Kd.V_reads' HO_2.out).2.1); rintro e w41 ⟨rfl, hb⟩; have n0_ := Aside0.mk (Kd.V_below (Kd.vk HO_2) hb); have n1_ := Aside0.mk (Kd.N_below (Kd.nk HO_11) hb); have n2_ := Aside0.mk (Kd.V_below (Kd.vk HO_373013) hb); have n3_ := Aside0.mk (Kd.R_below (Kd.rk HO395) hb); have n4_ := Aside0.mk (Kd.R_below (Kd.rk HO406) hb); have n5_ := Aside0.mk (blk_below (g := gb372) (bk BK372) hb); have n6_ := Aside0.mk (below_step (gw_ HB) hb); clear HO_2; clear HO_11; clear HO_373013; clear HO395; clear HO406; clear BK372; clear HB; have HO_2 := n0_; have HO_11 := n1_; have HO_373013 := n2_; have HO395 := n3_; have HO406 := n4_; have BK372 := n5_; have HB := n6_; clear n0_ n1_ n2_ n3_ n4_ n5_ n6_; (try clear hb); (try clear hb2); (try clear hk); (try clear hi)) | (go_at_call 15; (with_reducible refine (regain_Fast.calls a0 a1 _ _ x11_2 t409 _ ?side1 ?side2 A34.out).mono ?_); (case side1 => repeat (first | exact (Kd.N_reads' HO_11.out).2.2 | (with_reducible refine Kd.C_alloc ?_ _) | (with_reducible refine Kd.C_drewN ?_ _) | (with_reducible refine Kd.C_drew ?_))); (case side2 => exact (Kd.N_reads' HO_11.out).2.1); rintro e w42 ⟨rfl, hb⟩; have n0_ := Aside0.mk (Kd.V_below (Kd.vk HO_2) hb); have n1_ := Aside0.mk (Kd.N_below (Kd.nk HO_11) hb); have n2_ := Aside0.mk (Kd.V_below (Kd.vk HO_373013) hb); have n3_ := Aside0.mk (Kd.R_below (Kd.rk HO395) hb); have n4_ := Aside0.mk (Kd.R_below (Kd.rk HO406) hb); have n5_ := Aside0.mk (blk_below (g := gb372) (bk BK372) hb); have n6_ := Aside0.mk (below_step (gw_ HB) hb); clear HO_2; clear HO_11; clear HO_373013; clear HO395; clear HO406; clear BK372; clear HB; have HO_2 := n0_; have HO_11 := n1_; have HO_373013 := n2_; have HO395 := n3_; have HO406 := n4_; have BK372 := n5_; have HB := n6_; clear n0_ n1_ n2_ n3_ n4_ n5_ n6_; (try clear hb); (try clear hb2); (try clear hk); (try clear hi)))
         go_ret
         exact ⟨by first | rfl | (simp [errW_none, errW_some] <;> rfl) | (simp [*, errW_none, errW_some] <;> rfl), gw_ HB⟩
        ·
         replace c32 := Bool.eq_false_iff.mpr c32
         subst c32
         have H1 : (some false) = some r := by rw [if_neg (show ¬ (false = true) by decide)] at H; exact H
         clear H
         have H := H1
         clear H1
         exact absurd (Option.some.inj H) (by rw [HRT.out]; decide)
    ·
     rw [if_neg c19] at H
     exact absurd H (by simp)

end Go.Proofs.Ytomgiaakhpemaaa.P
