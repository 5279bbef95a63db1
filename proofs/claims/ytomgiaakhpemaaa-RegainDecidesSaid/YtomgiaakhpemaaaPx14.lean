/- Plain Lean functions and their contracts over the translation, written by a program of this session (myprint.py, over the kit's print); no condition but each contract's own. -/
import Derived.Test.YtomgiaakhpemaaaPx0
import Derived.Test.YtomgiaakhpemaaaPx10
import Derived.Test.YtomgiaakhpemaaaPx11
import Derived.Test.YtomgiaakhpemaaaPx12
import Derived.Test.YtomgiaakhpemaaaPx13
namespace Go.Proofs.Ytomgiaakhpemaaa.P
open Go.RowKit Go.Proofs.YtomgiaakhpemaaaW.PrintWords Go.Proofs.YtomgiaakhpemaaaW.PrintLast Go.Proofs.YtomgiaakhpemaaaW.PrintMore
attribute [local go_sem] max2_int min2_int max_two min_two max_three min_three max_four min_four   -- for this text's walks alone
set_option linter.unusedVariables false
set_option linter.unusedSimpArgs false

abbrev q13_0 : Array Bool := #[false, false, false, false, false, false, false, false, false, false, false, false, false, false, false, false, false, false, false, false, false, false]
abbrev q13_1 : Array Bool := #[true, false, false, false, false, false, false, false, false, false, false, false, false, false, false, false, false, false, false, false, false, false]
abbrev q13_2 : Array Bool := #[true, true, false, false, false, false, false, false, false, false, false, false, false, false, false, false, false, false, false, false, false, false]
abbrev q13_3 : Array Bool := #[true, true, true, false, false, false, false, false, false, false, false, false, false, false, false, false, false, false, false, false, false, false]
abbrev q13_4 : Array Bool := #[true, true, true, true, false, false, false, false, false, false, false, false, false, false, false, false, false, false, false, false, false, false]
abbrev q13_5 : Array Bool := #[true, true, true, true, true, false, false, false, false, false, false, false, false, false, false, false, false, false, false, false, false, false]
abbrev q13_6 : Array Bool := #[true, true, true, true, true, true, false, false, false, false, false, false, false, false, false, false, false, false, false, false, false, false]
abbrev q13_7 : Array Bool := #[true, true, true, true, true, true, true, false, false, false, false, false, false, false, false, false, false, false, false, false, false, false]
abbrev q13_8 : Array Bool := #[true, true, true, true, true, true, true, true, false, false, false, false, false, false, false, false, false, false, false, false, false, false]
abbrev q13_9 : Array Bool := #[true, true, true, true, true, true, true, true, true, false, false, false, false, false, false, false, false, false, false, false, false, false]
abbrev q13_10 : Array Bool := #[true, true, true, true, true, true, true, true, true, true, false, false, false, false, false, false, false, false, false, false, false, false]
abbrev q13_11 : Array Bool := #[true, true, true, true, true, true, true, true, true, true, true, false, false, false, false, false, false, false, false, false, false, false]
abbrev q13_12 : Array Bool := #[true, true, true, true, true, true, true, true, true, true, true, false, true, false, false, false, false, false, false, false, false, false]
abbrev q13_13 : Array Bool := #[true, true, true, true, true, true, true, true, true, true, true, true, false, false, false, false, false, false, false, false, false, false]
abbrev q13_14 : Array Bool := #[true, true, true, true, true, true, true, true, true, true, true, false, true, true, false, false, false, false, false, false, false, false]
abbrev q13_15 : Array Bool := #[true, true, true, true, true, true, true, true, true, true, true, true, true, false, false, false, false, false, false, false, false, false]
abbrev q13_16 : Array Bool := #[true, true, true, true, true, true, true, true, true, true, true, false, true, true, true, false, false, false, false, false, false, false]
abbrev q13_17 : Array Bool := #[true, true, true, true, true, true, true, true, true, true, true, true, true, true, false, false, false, false, false, false, false, false]
abbrev q13_18 : Array Bool := #[true, true, true, true, true, true, true, true, true, true, true, false, true, true, true, true, false, false, false, false, false, false]
abbrev q13_19 : Array Bool := #[true, true, true, true, true, true, true, true, true, true, true, true, true, true, true, false, false, false, false, false, false, false]
abbrev q13_20 : Array Bool := #[true, true, true, true, true, true, true, true, true, true, true, false, true, true, true, true, true, false, false, false, false, false]
abbrev q13_21 : Array Bool := #[true, true, true, true, true, true, true, true, true, true, true, true, true, true, true, true, false, false, false, false, false, false]
abbrev q13_22 : Array Bool := #[true, true, true, true, true, true, true, true, true, true, true, true, true, true, true, true, true, false, false, false, false, false]
abbrev q13_23 : Array Bool := #[true, true, true, true, true, true, true, true, true, true, true, true, true, true, true, true, true, true, false, false, false, false]
abbrev q13_24 : Array Bool := #[true, true, true, true, true, true, true, true, true, true, true, true, true, true, true, true, true, true, true, false, false, false]
abbrev q13_25 : Array Bool := #[true, true, true, true, true, true, true, true, true, true, true, true, true, true, true, true, true, true, true, true, false, false]
abbrev q13_26 : Array Bool := #[true, true, true, true, true, true, true, true, true, true, true, true, true, true, true, true, true, true, true, true, true, false]
abbrev q13_27 : Array Bool := #[true, true, true, true, true, true, true, true, true, true, true, true, true, true, true, true, true, true, true, true, true, true]
abbrev q13_28 : Array Bool := #[false, false, false, false, false, false, false, false, false, false, false, false, false, false]
abbrev q13_29 : Array Bool := #[true, false, false, false, false, false, false, false, false, false, false, false, false, false]
abbrev q13_30 : Array Bool := #[true, true, false, false, false, false, false, false, false, false, false, false, false, false]
abbrev q13_31 : Array Bool := #[true, true, true, false, false, false, false, false, false, false, false, false, false, false]
abbrev q13_32 : Array Bool := #[true, true, true, true, false, false, false, false, false, false, false, false, false, false]
abbrev q13_33 : Array Bool := #[true, true, true, true, true, false, false, false, false, false, false, false, false, false]
abbrev q13_34 : Array Bool := #[true, true, true, true, true, false, true, false, false, false, false, false, false, false]
abbrev q13_35 : Array Bool := #[true, true, true, true, true, false, true, true, false, false, false, false, false, false]
abbrev q13_36 : Array Bool := #[true, true, true, true, true, false, true, true, true, false, false, false, false, false]
abbrev q13_37 : Array Bool := #[true, true, true, true, true, false, true, true, true, true, false, false, false, false]
abbrev q13_38 : Array Bool := #[true, true, true, true, true, false, true, true, true, true, true, false, false, false]
abbrev q13_39 : Array Bool := #[true, true, true, true, true, true, true, true, true, true, true, false, false, false]
abbrev q13_40 : Array Bool := #[true, true, true, true, true, true, true, true, true, true, true, true, false, false]
abbrev q13_41 : Array Bool := #[true, true, true, true, true, true, true, true, true, true, true, true, true, false]
abbrev q13_42 : Array Bool := #[false, false, false, false, false, false, false, false, false, false, false, false]
abbrev q13_43 : Array Bool := #[true, true, true, true, true, true, true, true, true, true, true, true, true, true]
abbrev q13_44 : Array Bool := #[true, false, false, false, false, false, false, false, false, false, false, false]
abbrev q13_45 : Array Bool := #[true, true, false, false, false, false, false, false, false, false, false, false]
abbrev q13_46 : Array Bool := #[true, true, true, false, false, false, false, false, false, false, false, false]
abbrev q13_47 : Array Bool := #[true, true, true, true, false, false, false, false, false, false, false, false]
abbrev q13_48 : Array Bool := #[true, true, true, true, false, true, false, false, false, false, false, false]
abbrev q13_49 : Array Bool := #[true, true, true, true, false, true, true, false, false, false, false, false]
abbrev q13_50 : Array Bool := #[true, true, true, true, false, true, true, true, false, false, false, false]
abbrev q13_51 : Array Bool := #[true, true, true, true, false, true, true, true, true, false, false, false]
abbrev q13_52 : Array Bool := #[true, true, true, true, true, true, true, true, true, false, false, false]
abbrev q13_53 : Array Bool := #[true, true, true, true, true, true, true, true, true, true, false, false]
abbrev q13_54 : Array Bool := #[true, true, true, true, true, true, true, true, true, true, true, false]
abbrev q13_55 : Array Bool := #[true, true, true, true, true, true, true, true, true, true, true, true]
mutual
def colloquyref10_Decide.l0 : Nat → Int → Int → List (S35) → Int → Option (Int × Int × Int × Int × Int × Int × ByteArray × Int × List Int)
 | 0, _, _, _, _ => none
 | k + 1, x0, x1, x7, x8 => if x8 < (x7.length : Int) then (if 0 ≤ x8 then (if ((rd_T35 x7 x8).f1.f0) = 3 then (some (1, (rd_T35 x7 x8).f1.f3.f0, (rd_T35 x7 x8).f1.f3.f1, (rd_T35 x7 x8).f1.f3.f2, (rd_T35 x7 x8).f1.f3.f3, (rd_T35 x7 x8).f1.f3.f4, (rd_T35 x7 x8).f1.f3.f5, (rd_T35 x7 x8).f1.f4.f0, (rd_T35 x7 x8).f1.f4.f1)) else (colloquyref10_Decide.l0 k x0 x1 x7 (wrap64 (x8 + 1)))) else (none)) else ((colloquyref10_Quorum.f x0).bind fun t294 => (if (x7.length : Int) < t294 then (some (0, 0, 0, 0, 0, 0, (⟨#[]⟩ : ByteArray), 0, ([] : List Int))) else ((colloquyref10_best.f k x7 2).bind fun t295 => ((colloquyref10_best.f k x7 1).bind fun t296 => (if t295 ≥ 0 then (if t296 < 0 then (colloquyref10_Decide.j1 k x1 x7 t295 t296 true) else (if 0 ≤ t296 then (if t296 < (x7.length : Int) then (if 0 ≤ t295 then (if t295 < (x7.length : Int) then ((colloquyref07_Cmp.f k ((rd_T35 x7 t296).f1.f2.f0) ((rd_T35 x7 t296).f1.f2.f1) ((rd_T35 x7 t295).f1.f2.f0) ((rd_T35 x7 t295).f1.f2.f1)).bind fun t299 => (colloquyref10_Decide.j1 k x1 x7 t295 t296 (decide (t299 ≤ 0)))) else (none)) else (none)) else (none)) else (none))) else (colloquyref10_Decide.j1 k x1 x7 t295 t296 false))))))
def colloquyref10_Decide.j1 : Nat → Int → List (S35) → Int → Int → Bool → Option (Int × Int × Int × Int × Int × Int × ByteArray × Int × List Int)
 | 0, _, _, _, _, _ => none
 | k + 1, x1, x7, x9, x10, x72 => if x72 = true then (if 0 ≤ x9 then (if x9 < (x7.length : Int) then (some (2, (rd_T35 x7 x9).f1.f3.f0, (rd_T35 x7 x9).f1.f3.f1, (rd_T35 x7 x9).f1.f3.f2, (rd_T35 x7 x9).f1.f3.f3, (rd_T35 x7 x9).f1.f3.f4, (rd_T35 x7 x9).f1.f3.f5, (rd_T35 x7 x9).f1.f4.f0, (rd_T35 x7 x9).f1.f4.f1)) else (none)) else (none)) else ((colloquyref10_first.f k x1 x7).bind fun t302 => (if t302 = true then (if 0 < (x7.length : Int) then (some (2, (rd_T35 x7 0).f1.f3.f0, (rd_T35 x7 0).f1.f3.f1, (rd_T35 x7 0).f1.f3.f2, (rd_T35 x7 0).f1.f3.f3, (rd_T35 x7 0).f1.f3.f4, (rd_T35 x7 0).f1.f3.f5, (rd_T35 x7 0).f1.f4.f0, (rd_T35 x7 0).f1.f4.f1)) else (none)) else (if x10 ≥ 0 then (if 0 ≤ x10 then (if x10 < (x7.length : Int) then (some (3, (rd_T35 x7 x10).f1.f3.f0, (rd_T35 x7 x10).f1.f3.f1, (rd_T35 x7 x10).f1.f3.f2, (rd_T35 x7 x10).f1.f3.f3, (rd_T35 x7 x10).f1.f3.f4, (rd_T35 x7 x10).f1.f3.f5, 0, ([] : List Int))) else (none)) else (none)) else (some (4, 0, 0, 0, 0, 0, (⟨#[]⟩ : ByteArray), 0, ([] : List Int))))))
end
def colloquyref10_Decide.f (k : Nat) (a0 : Int) (a1 : Int) (l2 : List (S35)) : Option (Int × Int × Int × Int × Int × Int × ByteArray × Int × List Int) := (colloquyref10_Count.f k a0 l2).bind fun t288 => (colloquyref10_Decide.l0 k a0 a1 t288 0)
def colloquyref10_Decide.T6 : Bool × List (List Nat × List Nat) := (true, [([], []), ([], []), ([0, 1], [0, 1]), ([2], [2]), ([3], [3]), ([4], [4]), ([], []), ([], []), ([6, 7], [6, 7]), ([8], [8]), ([9], [9]), ([10], [10]), ([5, 11], [5, 11]), ([12, 0, 1, 2, 3, 4, 5, 6, 7, 8, 9, 10, 11, 12], [12])])
def colloquyref10_Decide.B6 : List Nat := [0, 0, 3, 7, 15, 31, 0, 0, 192, 448, 960, 1984, 4095, 8191]
theorem colloquyref10_Decide.tab6 : rtab .any (opsOf Try.f13 6) = colloquyref10_Decide.T6 := by kernel_rfl
theorem colloquyref10_Decide.bits6 : waitsOk colloquyref10_Decide.T6.2 colloquyref10_Decide.B6 = true := by kernel_rfl
def colloquyref10_Decide.T11 : Bool × List (List Nat × List Nat) := (true, [([], []), ([0], [0]), ([1], [1]), ([2], [2]), ([3, 2], [2, 3]), ([4, 2, 2], [2, 4]), ([5], [5]), ([5], [5]), ([6, 7, 5], [5, 6, 7]), ([8, 5], [5, 8]), ([9, 5], [5, 9]), ([10, 5], [5, 10]), ([5], [5]), ([5], [5]), ([12, 13, 5], [5, 12, 13]), ([14, 5], [5, 14]), ([15, 5], [5, 15]), ([16, 5], [5, 16]), ([11, 17, 5, 5], [5, 11, 17]), ([18, 5], [5, 18]), ([5, 19, 2], [2, 5, 19]), ([2, 20], [2, 20])])
def colloquyref10_Decide.B11 : List Nat := [0, 1, 3, 7, 15, 31, 63, 63, 255, 511, 1023, 2047, 63, 63, 12351, 28735, 61503, 127039, 262143, 524287, 1048575, 2097151]
theorem colloquyref10_Decide.tab11 : rtab .any (opsOf Try.f13 11) = colloquyref10_Decide.T11 := by kernel_rfl
theorem colloquyref10_Decide.bits11 : waitsOk colloquyref10_Decide.T11.2 colloquyref10_Decide.B11 = true := by kernel_rfl
def colloquyref10_Decide.T12 : Bool × List (List Nat × List Nat) := (true, [([], []), ([], []), ([0, 1], [0, 1]), ([2], [2]), ([3], [3]), ([4], [4]), ([], []), ([], []), ([6, 7], [6, 7]), ([8], [8]), ([9], [9]), ([10], [10]), ([5, 11], [5, 11]), ([12, 0, 1, 2, 3, 4, 5, 6, 7, 8, 9, 10, 11, 12], [12])])
def colloquyref10_Decide.B12 : List Nat := [0, 0, 3, 7, 15, 31, 0, 0, 192, 448, 960, 1984, 4095, 8191]
theorem colloquyref10_Decide.tab12 : rtab .any (opsOf Try.f13 12) = colloquyref10_Decide.T12 := by kernel_rfl
theorem colloquyref10_Decide.bits12 : waitsOk colloquyref10_Decide.T12.2 colloquyref10_Decide.B12 = true := by kernel_rfl
def colloquyref10_Decide.T15 : Bool × List (List Nat × List Nat) := (true, [([], []), ([0], [0]), ([1], [1]), ([2], [2]), ([3], [3]), ([], []), ([5], [5]), ([6], [6]), ([7], [7]), ([8], [8]), ([4, 9], [4, 9]), ([10, 0, 1, 2, 3, 4, 5, 6, 7, 8, 9, 10], [10])])
def colloquyref10_Decide.B15 : List Nat := [0, 1, 3, 7, 15, 0, 32, 96, 224, 480, 1023, 2047]
theorem colloquyref10_Decide.tab15 : rtab .any (opsOf Try.f13 15) = colloquyref10_Decide.T15 := by kernel_rfl
theorem colloquyref10_Decide.bits15 : waitsOk colloquyref10_Decide.T15.2 colloquyref10_Decide.B15 = true := by kernel_rfl
set_option maxHeartbeats 8000000 in
set_option maxRecDepth 100000 in
theorem colloquyref10_Decide.calls (k : Nat) (a0 : Int) (a1 : Int) (P2_ : Nat → Prop) (A2 : Option Addr) (c2 : Nat) (l2 : List (S35)) (r1 : Int) (r2 : Int) (r3 : Int) (r4 : Int) (r5 : Int) (r6 : Int) (r7 : ByteArray) (r8 : Int) (r9 : List Int) (w : World) (hs2 : Kd.V k35 35 w w.heap.size (fun k_ => P2_ k_) (.slice A2 l2.length c2) l2) (h : colloquyref10_Decide.f k a0 a1 l2 = some (r1, r2, r3, r4, r5, r6, r7, r8, r9)) :
  Calls Try.prog 13 #[.int .i64 a0, .int .i64 a1, .slice A2 l2.length c2] w fun e w' => ∃ v8_ : Value, e = .returned (.agg #[.int .i64 r1, .int .i64 r2, .int .i64 r3, .int .i64 r4, .int .i64 r5, .int .i64 r6, .string r7, .int .i64 r8, v8_]) ∧ Kd.V (Kd.int .i64) 3 w' w.heap.size (fun k_ => (P2_ k_ ∨ w.heap.size ≤ k_)) v8_ r9 ∧ Below w.heap.size w w' := by
 have hu37 := Try.underlying37
 have hu28 := Try.underlying28
 have hu31 := Try.underlying31
 have hu26 := Try.underlying26
 have HO2 := Aside0.mk (show Kd.V k35 35 w w.heap.size (fun k_ => (P2_ k_ ∨ w.heap.size ≤ k_)) (.slice A2 l2.length c2) l2 from Kd.V_mono hs2 (fun k_ hk => .inl hk))
 have HB := Aside0.mk (Below.refl w.heap.size w)
 have H : ((colloquyref10_Count.f k a0 l2).bind fun t288 => (colloquyref10_Decide.l0 k a0 a1 t288 0)) = some (r1, r2, r3, r4, r5, r6, r7, r8, r9) := h
 clear h
 replace H := Option.bind_eq_some_iff.mp H
 obtain ⟨t288, A40, H⟩ := H
 replace H : (colloquyref10_Decide.l0 k a0 a1 t288 0) = some (r1, r2, r3, r4, r5, r6, r7, r8, r9) := H
 have A4 := Aside0.mk A40
 clear A40
 have H' := Aside0.mk H
 clear H
 go_enter Try.func13, Try.ntmps13
 go_wp2_with (first | ((with_reducible refine gate_dst (N := 6) rfl ?_); refine box_event ?hg (N := 6) ?hd (cs := #[.int .i64 0, .int .i64 0, .int .i64 0, .int .i64 0, .int .i64 0, .int .i64 0, .string (⟨#[]⟩ : ByteArray), .int .i64 0, .slice none 0 0]) (t := 37) ?hr ?_; (case hd => rfl); (case hg => rfl); (case hr => first | (go_simp; done) | (go_simp; rfl)); intro gb287 hg w5 hbox hb; have n0_ := Aside0.mk (Kd.V_below (Kd.V_elderB (Kd.vk HO2) gb287 (Nat.le_of_eq hg.symm)) hb); have s_ := step_size_ (gw_ HB) hb hg; have n1_ := Aside0.mk s_.1; have n2_ := Aside0.mk (hbox); have n3_ := Aside0.mk s_.2; clear s_; have n4_ := n3_; clear HO2; clear HB; have HO2 := n0_; have HB := n1_; have BK287 := n2_; have GW287 := n3_; have GE287 := n4_; clear n0_ n1_ n2_ n3_ n4_; clear hb hbox hg) | ((with_reducible refine gate_callee (f := 27) rfl ?_); refine goesL_ (some 14) rfl rfl Try.func27 (by kernel_rfl) rfl #[.int .i64 a0, .slice A2 l2.length c2] rfl (by (try simp only [List.map_toArray, List.map_cons, List.map_nil]); first | done | rfl | (simp only [List.length_drop, List.length_take]; rfl)) ?_; (with_reducible refine (colloquyref10_Count.calls k a0 (fun k_ => ((P2_ k_ ∨ w.heap.size ≤ k_) ∧ k_ ≠ gb287)) _ _ l2 t288 _ ?side1 A4.out).mono ?_); (case side1 => exact HO2.out); rintro e w6 ⟨v289, rfl, ho0, hb⟩; refine ⟨_, rfl, ?_⟩; have n0_ := Aside0.mk (Kd.V_elder' (Kd.vk HO2) (Kd.N_base ho0) hb); have n1_ := Aside0.mk (Kd.N_lower (Kd.N_mono (ok' := fun k_ => (P2_ k_ ∨ w.heap.size ≤ k_) ∧ k_ ≠ gb287) ho0 (fun k_ hk_ => ⟨Or.elim hk_ (fun hs_ => hs_.1) (fun hn_ => (.inr (Nat.le_trans (below_size (gw_ HB)) hn_))), Or.elim hk_ (fun hs_ => hs_.2) (fun hn_ => (Kd.freshB (g := gb287) (bk BK287) k_ hn_))⟩)) (below_size (gw_ HB))); have n2_ := Aside0.mk (blk_below (g := gb287) (bk BK287) hb); have n3_ := Aside0.mk (below_step (gw_ HB) hb); clear HO2; clear BK287; clear HB; have HO2 := n0_; have HO290 := n1_; have BK287 := n2_; have HB := n3_; clear n0_ n1_ n2_ n3_; (try clear hb); (try clear hb2); (try clear hk); (try clear hi); (try clear ho0)))
 go_loopg [8] k (fun kq v8 w' => ∃ (x8_1 : Int) (x288000_1 : Int) (x288001_1 : Int) (x288002_1 : Int) (x288003_1 : Int) (x288004_1 : Int) (x288005_1 : Int) (x288006_1 : ByteArray) (x288007_1 : Int), v8 = .int .i64 x8_1 ∧ Aside0 (colloquyref10_Decide.l0 kq a0 a1 t288 x8_1 = some (r1, r2, r3, r4, r5, r6, r7, r8, r9)) ∧ Aside0 (kq ≤ k) ∧ Aside0 (Kd.N k35 35 w' w.heap.size (fun k_ => (P2_ k_ ∨ w.heap.size ≤ k_) ∧ k_ ≠ gb287) v289 t288) ∧ Aside0 (w'.heap[gb287]? = some (.cells #[.int .i64 x288000_1, .int .i64 x288001_1, .int .i64 x288002_1, .int .i64 x288003_1, .int .i64 x288004_1, .int .i64 x288005_1, .string x288006_1, .int .i64 x288007_1, (.slice none 0 0)] 37 (0, 0))) ∧ Aside0 (Below w.heap.size w w'))
 case atStart => exact ⟨(0), (0), (0), (0), (0), (0), (0), ((⟨#[]⟩ : ByteArray)), (0), (by first | rfl | (simp; done) | (simp [*]; done)), H', ⟨Nat.le_refl _⟩, ⟨by (with_reducible repeat (first | apply Kd.N_alloc | apply Kd.N_drewN | apply Kd.N_drew)); exact HO290.out⟩, ⟨by (with_reducible repeat (first | refine blk_drewN ?_ _ | refine blk_drew ?_ | refine blk_alloc ?_ _)); exact BK287.out⟩, ⟨gw_ HB⟩⟩
 case round =>
  clear H'
  try clear c1
  try clear c2
  try clear p2
  obtain ⟨x8_1, x288000_1, x288001_1, x288002_1, x288003_1, x288004_1, x288005_1, x288006_1, x288007_1, rfl, HA, HK1, HO_7, BK287, HB⟩ := hrel
  cases gk with
  | zero => exact absurd HA.out (by simp [colloquyref10_Decide.l0])
  | succ k1 =>
   have H := HA.out
   clear HA
   simp only [colloquyref10_Decide.l0] at H
   by_cases c7 : x8_1 < (t288.length : Int)
   ·
    rw [if_pos c7] at H
    have c7b0 : decide (x8_1 < (t288.length : Int)) = true := decide_eq_true c7
    clear c7
    by_cases c8 : 0 ≤ x8_1
    ·
     rw [if_pos c8] at H
     have c8b0 : decide (0 ≤ x8_1) = true := decide_eq_true c8
     clear c8
     by_cases c9 : ((rd_T35 t288 x8_1).f1.f0) = 3
     ·
      rw [if_pos c9] at H
      have c9b0 : (((rd_T35 t288 x8_1).f1.f0) == 3) = true := beq_iff_eq.mpr c9
      have c9b1 : (((rd_T35 t288 x8_1).f1.f0) != 3) = false := bne_eq_false_iff_eq.mpr c9
      clear c9
      simp only [Option.some.injEq, Prod.mk.injEq] at H
      obtain ⟨rfl, rfl, rfl, rfl, rfl, rfl, rfl, rfl, rfl⟩ := H
      obtain ⟨Ao10, co10, eo10⟩ := Kd.N_slice HO_7.out
      subst eo10
      have p291 : 0 ≤ (x8_1 : Int) := of_decide_eq_true (by first | (with_reducible assumption) | assumption)
      have q291 : x8_1 < (t288.length : Int) := of_decide_eq_true (by first | (with_reducible assumption) | assumption)
      obtain ⟨ad291, A291_13, c291_13, e291, hx291_0, hx291_1, hx291_2, hx291_3, hx291_4, hx291_5, hx291_6, hx291_7, hx291_8, hx291_9, hx291_10, hx291_11, hx291_12, hx291_13, hl291_13, hi291_13⟩ := at_T35 (Kd.N_reads' HO_7.out).2.2 x8_1 p291 q291
      cases e291
      obtain ⟨ce291, hce291, hMe291, hcc291⟩ := Kd.N_get HO_7.out z35 x8_1 p291 (by first | exact q291 | exact of_decide_eq_true (by first | (with_reducible assumption) | assumption) | (have e_ := (Kd.N_reads' HO_7.out).1; omega))
      obtain ⟨ua291_13, uc291_13, rfl, ul291_13, ge291_13⟩ := k35_openF hMe291
      have hv291_13 := hcc291 13 _ rfl
      rw [add_field _ _ 13 (by omega)] at hv291_13
      replace hv291_13 := Option.some.inj (hv291_13.symm.trans hx291_13)
      injection hv291_13 with hva_ hvn_ hvc_
      rw [hva_] at ge291_13
      rw [hvc_] at ul291_13
      have HL291_13 := Aside0.mk (show Kd.V (Kd.int .i64) 3 _ w.heap.size _ _ ((rd_T35 t288 x8_1).f1.f4.f1) from Kd.V_mk ul291_13 ge291_13)
      clear hva_ hvn_ hvc_ ge291_13 ul291_13
      clear hcc291 hce291
      have HR291_13 := Aside0.mk hi291_13
      have HC291_13 := Aside0.mk hl291_13
      clear hi291_13 hl291_13
      replace p291 := eq_true p291
      replace q291 := eq_true q291
      try go_wp2
      have n0_ := Aside0.mk (Kd.N_drew HO_7.out)
      have n1_ := Aside0.mk (Kd.V_drew HL291_13.out)
      have n2_ := Aside0.mk (blk_drew BK287.out)
      have n3_ := Aside0.mk (Kd.C_drew HR291_13.out)
      have n4_ := Aside0.mk (below_drew1 HB.out)
      clear HO_7
      clear HL291_13
      clear BK287
      clear HR291_13
      clear HB
      have HO_7 := n0_
      have HL291_13 := n1_
      have BK287 := n2_
      have HR291_13 := n3_
      have HB := n4_
      clear n0_ n1_ n2_ n3_ n4_
      have p292 : 0 ≤ (x8_1 : Int) := of_decide_eq_true (by first | (with_reducible assumption) | assumption)
      have q292 : x8_1 < (t288.length : Int) := of_decide_eq_true (by first | (with_reducible assumption) | assumption)
      obtain ⟨ad292, A292_13, c292_13, e292, hx292_0, hx292_1, hx292_2, hx292_3, hx292_4, hx292_5, hx292_6, hx292_7, hx292_8, hx292_9, hx292_10, hx292_11, hx292_12, hx292_13, hl292_13, hi292_13⟩ := at_T35 (Kd.N_reads' HO_7.out).2.2 x8_1 p292 q292
      obtain rfl : ad291 = ad292 := (by injection e292)
      obtain ⟨ce292, hce292, hMe292, hcc292⟩ := Kd.N_get HO_7.out z35 x8_1 p292 (by first | exact q292 | exact of_decide_eq_true (by first | (with_reducible assumption) | assumption) | (have e_ := (Kd.N_reads' HO_7.out).1; omega))
      obtain ⟨ua292_13, uc292_13, rfl, ul292_13, ge292_13⟩ := k35_openF hMe292
      have hv292_13 := hcc292 13 _ rfl
      rw [add_field _ _ 13 (by omega)] at hv292_13
      replace hv292_13 := Option.some.inj (hv292_13.symm.trans hx292_13)
      injection hv292_13 with hva_ hvn_ hvc_
      rw [hva_] at ge292_13
      rw [hvc_] at ul292_13
      have HL292_13 := Aside0.mk (show Kd.V (Kd.int .i64) 3 _ w.heap.size _ _ ((rd_T35 t288 x8_1).f1.f4.f1) from Kd.V_mk ul292_13 ge292_13)
      clear hva_ hvn_ hvc_ ge292_13 ul292_13
      clear hcc292 hce292
      have HR292_13 := Aside0.mk hi292_13
      have HC292_13 := Aside0.mk hl292_13
      clear hi292_13 hl292_13
      replace p292 := eq_true p292
      replace q292 := eq_true q292
      have p293 : 0 ≤ (x8_1 : Int) := of_decide_eq_true (by first | (with_reducible assumption) | assumption)
      have q293 : x8_1 < (t288.length : Int) := of_decide_eq_true (by first | (with_reducible assumption) | assumption)
      obtain ⟨ad293, A293_13, c293_13, e293, hx293_0, hx293_1, hx293_2, hx293_3, hx293_4, hx293_5, hx293_6, hx293_7, hx293_8, hx293_9, hx293_10, hx293_11, hx293_12, hx293_13, hl293_13, hi293_13⟩ := at_T35 (Kd.N_reads' HO_7.out).2.2 x8_1 p293 q293
      obtain rfl : ad291 = ad293 := (by injection e293)
      obtain ⟨ce293, hce293, hMe293, hcc293⟩ := Kd.N_get HO_7.out z35 x8_1 p293 (by first | exact q293 | exact of_decide_eq_true (by first | (with_reducible assumption) | assumption) | (have e_ := (Kd.N_reads' HO_7.out).1; omega))
      obtain ⟨ua293_13, uc293_13, rfl, ul293_13, ge293_13⟩ := k35_openF hMe293
      have hv293_13 := hcc293 13 _ rfl
      rw [add_field _ _ 13 (by omega)] at hv293_13
      replace hv293_13 := Option.some.inj (hv293_13.symm.trans hx293_13)
      injection hv293_13 with hva_ hvn_ hvc_
      rw [hva_] at ge293_13
      rw [hvc_] at ul293_13
      have HL293_13 := Aside0.mk (show Kd.V (Kd.int .i64) 3 _ w.heap.size _ _ ((rd_T35 t288 x8_1).f1.f4.f1) from Kd.V_mk ul293_13 ge293_13)
      clear hva_ hvn_ hvc_ ge293_13 ul293_13
      clear hcc293 hce293
      have HR293_13 := Aside0.mk hi293_13
      have HC293_13 := Aside0.mk hl293_13
      clear hi293_13 hl293_13
      replace p293 := eq_true p293
      replace q293 := eq_true q293
      have ea_ := Option.some.inj (hx292_13.symm.trans hx293_13)
      injection ea_ with ea_ en_ ec_
      subst ea_
      subst ec_
      clear en_
      refine start_ (n := 14) (S := fun w' => w'.cell? (ad291.add ((x8_1).toNat * 14)) = some (.int .i64 ((rd_T35 t288 x8_1).f0)) ∧ w'.cell? ⟨(ad291.add ((x8_1).toNat * 14)).block, (ad291.add ((x8_1).toNat * 14)).off + 1, none⟩ = some (.int .i64 ((rd_T35 t288 x8_1).f1.f0)) ∧ w'.cell? ⟨(ad291.add ((x8_1).toNat * 14)).block, (ad291.add ((x8_1).toNat * 14)).off + 2, none⟩ = some (.int .i64 ((rd_T35 t288 x8_1).f1.f1.f0)) ∧ w'.cell? ⟨(ad291.add ((x8_1).toNat * 14)).block, (ad291.add ((x8_1).toNat * 14)).off + 3, none⟩ = some (.int .i64 ((rd_T35 t288 x8_1).f1.f1.f1)) ∧ w'.cell? ⟨(ad291.add ((x8_1).toNat * 14)).block, (ad291.add ((x8_1).toNat * 14)).off + 4, none⟩ = some (.int .i64 ((rd_T35 t288 x8_1).f1.f2.f0)) ∧ w'.cell? ⟨(ad291.add ((x8_1).toNat * 14)).block, (ad291.add ((x8_1).toNat * 14)).off + 5, none⟩ = some (.int .i64 ((rd_T35 t288 x8_1).f1.f2.f1)) ∧ w'.cell? ⟨(ad291.add ((x8_1).toNat * 14)).block, (ad291.add ((x8_1).toNat * 14)).off + 6, none⟩ = some (.int .i64 ((rd_T35 t288 x8_1).f1.f3.f0)) ∧ w'.cell? ⟨(ad291.add ((x8_1).toNat * 14)).block, (ad291.add ((x8_1).toNat * 14)).off + 7, none⟩ = some (.int .i64 ((rd_T35 t288 x8_1).f1.f3.f1)) ∧ w'.cell? ⟨(ad291.add ((x8_1).toNat * 14)).block, (ad291.add ((x8_1).toNat * 14)).off + 8, none⟩ = some (.int .i64 ((rd_T35 t288 x8_1).f1.f3.f2)) ∧ w'.cell? ⟨(ad291.add ((x8_1).toNat * 14)).block, (ad291.add ((x8_1).toNat * 14)).off + 9, none⟩ = some (.int .i64 ((rd_T35 t288 x8_1).f1.f3.f3)) ∧ w'.cell? ⟨(ad291.add ((x8_1).toNat * 14)).block, (ad291.add ((x8_1).toNat * 14)).off + 10, none⟩ = some (.int .i64 ((rd_T35 t288 x8_1).f1.f3.f4)) ∧ w'.cell? ⟨(ad291.add ((x8_1).toNat * 14)).block, (ad291.add ((x8_1).toNat * 14)).off + 11, none⟩ = some (.string ((rd_T35 t288 x8_1).f1.f3.f5)) ∧ w'.cell? ⟨(ad291.add ((x8_1).toNat * 14)).block, (ad291.add ((x8_1).toNat * 14)).off + 12, none⟩ = some (.int .i64 ((rd_T35 t288 x8_1).f1.f4.f0)) ∧ w'.cell? ⟨(ad291.add ((x8_1).toNat * 14)).block, (ad291.add ((x8_1).toNat * 14)).off + 13, none⟩ = some (.slice A292_13 ((rd_T35 t288 x8_1).f1.f4.f1).length c292_13) ∧ w'.cell? (ad291.add ((x8_1).toNat * 14)) = some (.int .i64 ((rd_T35 t288 x8_1).f0)) ∧ w'.cell? ⟨(ad291.add ((x8_1).toNat * 14)).block, (ad291.add ((x8_1).toNat * 14)).off + 1, none⟩ = some (.int .i64 ((rd_T35 t288 x8_1).f1.f0)) ∧ w'.cell? ⟨(ad291.add ((x8_1).toNat * 14)).block, (ad291.add ((x8_1).toNat * 14)).off + 2, none⟩ = some (.int .i64 ((rd_T35 t288 x8_1).f1.f1.f0)) ∧ w'.cell? ⟨(ad291.add ((x8_1).toNat * 14)).block, (ad291.add ((x8_1).toNat * 14)).off + 3, none⟩ = some (.int .i64 ((rd_T35 t288 x8_1).f1.f1.f1)) ∧ w'.cell? ⟨(ad291.add ((x8_1).toNat * 14)).block, (ad291.add ((x8_1).toNat * 14)).off + 4, none⟩ = some (.int .i64 ((rd_T35 t288 x8_1).f1.f2.f0)) ∧ w'.cell? ⟨(ad291.add ((x8_1).toNat * 14)).block, (ad291.add ((x8_1).toNat * 14)).off + 5, none⟩ = some (.int .i64 ((rd_T35 t288 x8_1).f1.f2.f1)) ∧ w'.cell? ⟨(ad291.add ((x8_1).toNat * 14)).block, (ad291.add ((x8_1).toNat * 14)).off + 6, none⟩ = some (.int .i64 ((rd_T35 t288 x8_1).f1.f3.f0)) ∧ w'.cell? ⟨(ad291.add ((x8_1).toNat * 14)).block, (ad291.add ((x8_1).toNat * 14)).off + 7, none⟩ = some (.int .i64 ((rd_T35 t288 x8_1).f1.f3.f1)) ∧ w'.cell? ⟨(ad291.add ((x8_1).toNat * 14)).block, (ad291.add ((x8_1).toNat * 14)).off + 8, none⟩ = some (.int .i64 ((rd_T35 t288 x8_1).f1.f3.f2)) ∧ w'.cell? ⟨(ad291.add ((x8_1).toNat * 14)).block, (ad291.add ((x8_1).toNat * 14)).off + 9, none⟩ = some (.int .i64 ((rd_T35 t288 x8_1).f1.f3.f3)) ∧ w'.cell? ⟨(ad291.add ((x8_1).toNat * 14)).block, (ad291.add ((x8_1).toNat * 14)).off + 10, none⟩ = some (.int .i64 ((rd_T35 t288 x8_1).f1.f3.f4)) ∧ w'.cell? ⟨(ad291.add ((x8_1).toNat * 14)).block, (ad291.add ((x8_1).toNat * 14)).off + 11, none⟩ = some (.string ((rd_T35 t288 x8_1).f1.f3.f5)) ∧ w'.cell? ⟨(ad291.add ((x8_1).toNat * 14)).block, (ad291.add ((x8_1).toNat * 14)).off + 12, none⟩ = some (.int .i64 ((rd_T35 t288 x8_1).f1.f4.f0)) ∧ w'.cell? ⟨(ad291.add ((x8_1).toNat * 14)).block, (ad291.add ((x8_1).toNat * 14)).off + 13, none⟩ = some (.slice A292_13 ((rd_T35 t288 x8_1).f1.f4.f1).length c292_13)) (ds := [13]) q13_28 (by kernel_rfl) rfl rfl ⟨hx292_0, hx292_1, hx292_2, hx292_3, hx292_4, hx292_5, hx292_6, hx292_7, hx292_8, hx292_9, hx292_10, hx292_11, hx292_12, hx292_13, hx293_0, hx293_1, hx293_2, hx293_3, hx293_4, hx293_5, hx293_6, hx293_7, hx293_8, hx293_9, hx293_10, hx293_11, hx293_12, hx293_13⟩ (fun hHeld => ?_); refine with_tabW colloquyref10_Decide.tab6 colloquyref10_Decide.bits6 (fun HT_ HW_ => ?_)
      generalize wr.drew = w11 at HO_7 HL291_13 BK287 HR291_13 HB HL292_13 HL293_13 HR292_13 HR293_13 hx292_0 hx292_1 hx292_10 hx292_11 hx292_12 hx292_13 hx292_2 hx292_3 hx292_4 hx292_5 hx292_6 hx292_7 hx292_8 hx292_9 hx293_0 hx293_1 hx293_10 hx293_11 hx293_12 hx293_13 hx293_2 hx293_3 hx293_4 hx293_5 hx293_6 hx293_7 hx293_8 hx293_9 hHeld ⊢
      refine pure_ (i := 0) (N := some 28) (v := ?_) (a' := ?_) q13_29 rfl rfl (any_of HT_.out (by kernel_rfl)) (fun _ _ _ h => h) (Or.inl ⟨by rfl, ?_⟩) ?_ ?_
      rotate_left
      ·
       intro w'
       go_simp
       with_reducible rfl
      rotate_left
      ·
       simp only [Act.put, List.setIfInBounds_toArray, List.set_cons_zero, List.set_cons_succ, i64_w, i32_w]
       rfl
      refine pure_ (i := 1) (N := some 29) (v := ?_) (a' := ?_) q13_30 rfl rfl (any_of HT_.out (by kernel_rfl)) (fun _ _ _ h => h) (Or.inl ⟨by rfl, ?_⟩) ?_ ?_
      rotate_left
      ·
       intro w'
       go_simp
       with_reducible rfl
      rotate_left
      ·
       simp only [Act.put, List.setIfInBounds_toArray, List.set_cons_zero, List.set_cons_succ, i64_w, i32_w]
       rfl
      refine pure_ (i := 2) (N := some 30) (v := ?_) (a' := ?_) q13_31 rfl rfl (any_of HT_.out (by kernel_rfl)) (fun _ _ _ h => h) (Or.inl ⟨by rfl, ?_⟩) ?_ ?_
      rotate_left
      ·
       intro w'
       go_simp
       with_reducible rfl
      rotate_left
      ·
       simp only [Act.put, List.setIfInBounds_toArray, List.set_cons_zero, List.set_cons_succ, i64_w, i32_w]
       rfl
      refine pure_ (i := 3) (N := some 31) (v := ?_) (a' := ?_) q13_32 rfl rfl (any_of HT_.out (by kernel_rfl)) (fun _ _ _ h => h) (Or.inl ⟨by rfl, ?_⟩) ?_ ?_
      rotate_left
      ·
       intro w'
       go_simp
       with_reducible rfl
      rotate_left
      ·
       simp only [Act.put, List.setIfInBounds_toArray, List.set_cons_zero, List.set_cons_succ, i64_w, i32_w]
       rfl
      refine pure_ (i := 4) (N := some 32) (v := ?_) (a' := ?_) q13_33 rfl rfl (any_of HT_.out (by kernel_rfl)) (fun _ _ _ h => h) (Or.inl ⟨by rfl, ?_⟩) ?_ ?_
      rotate_left
      ·
       intro w'
       go_simp
       with_reducible rfl
      rotate_left
      ·
       simp only [Act.put, List.setIfInBounds_toArray, List.set_cons_zero, List.set_cons_succ, i64_w, i32_w]
       rfl
      refine pure_ (i := 6) (N := some 34) (v := ?_) (a' := ?_) q13_34 rfl rfl (any_of HT_.out (by kernel_rfl)) (fun _ _ _ h => h) (Or.inl ⟨by rfl, ?_⟩) ?_ ?_
      rotate_left
      ·
       intro w'
       go_simp
       with_reducible rfl
      rotate_left
      ·
       simp only [Act.put, List.setIfInBounds_toArray, List.set_cons_zero, List.set_cons_succ, i64_w, i32_w]
       rfl
      refine pure_ (i := 7) (N := some 35) (v := ?_) (a' := ?_) q13_35 rfl rfl (any_of HT_.out (by kernel_rfl)) (fun _ _ _ h => h) (Or.inl ⟨by rfl, ?_⟩) ?_ ?_
      rotate_left
      ·
       intro w'
       go_simp
       with_reducible rfl
      rotate_left
      ·
       simp only [Act.put, List.setIfInBounds_toArray, List.set_cons_zero, List.set_cons_succ, i64_w, i32_w]
       rfl
      refine pure_ (i := 8) (N := some 36) (v := ?_) (a' := ?_) q13_36 rfl rfl (any_of HT_.out (by kernel_rfl)) (fun _ _ _ h => h) (Or.inl ⟨by rfl, ?_⟩) ?_ ?_
      rotate_left
      ·
       intro w'
       go_simp
       with_reducible rfl
      rotate_left
      ·
       simp only [Act.put, List.setIfInBounds_toArray, List.set_cons_zero, List.set_cons_succ, i64_w, i32_w]
       rfl
      refine pure_ (i := 9) (N := some 37) (v := ?_) (a' := ?_) q13_37 rfl rfl (any_of HT_.out (by kernel_rfl)) (fun _ _ _ h => h) (Or.inl ⟨by rfl, ?_⟩) ?_ ?_
      rotate_left
      ·
       intro w'
       go_simp
       with_reducible rfl
      rotate_left
      ·
       simp only [Act.put, List.setIfInBounds_toArray, List.set_cons_zero, List.set_cons_succ, i64_w, i32_w]
       rfl
      refine pure_ (i := 10) (N := some 38) (v := ?_) (a' := ?_) q13_38 rfl rfl (any_of HT_.out (by kernel_rfl)) (fun _ _ _ h => h) (Or.inl ⟨by rfl, ?_⟩) ?_ ?_
      rotate_left
      ·
       intro w'
       go_simp
       with_reducible rfl
      rotate_left
      ·
       simp only [Act.put, List.setIfInBounds_toArray, List.set_cons_zero, List.set_cons_succ, i64_w, i32_w]
       rfl
      refine take_ (i := 5) (N := some 33) (v := ?_) (a' := ?_) q13_39 rfl rfl (take_ofW HT_.out HW_.out (by kernel_rfl)) (fun _ _ _ h => h) (Or.inl ⟨by rfl, ?_⟩) hHeld ?_ ?_
      rotate_left
      ·
       rintro w' ⟨s0, s1, s2, s3, s4, s5, s6, s7, s8, s9, s10, s11, s12, s13, s14, s15, s16, s17, s18, s19, s20, s21, s22, s23, s24, s25, s26, s27⟩
       go_simp
       with_reducible rfl
      rotate_left
      ·
       simp only [Act.put, List.setIfInBounds_toArray, List.set_cons_zero, List.set_cons_succ, i64_w, i32_w]
       rfl
      refine take_ (i := 11) (N := some 39) (v := ?_) (a' := ?_) q13_40 rfl rfl (take_ofW HT_.out HW_.out (by kernel_rfl)) (fun _ _ _ h => h) (Or.inl ⟨by rfl, ?_⟩) hHeld ?_ ?_
      rotate_left
      ·
       rintro w' ⟨s0, s1, s2, s3, s4, s5, s6, s7, s8, s9, s10, s11, s12, s13, s14, s15, s16, s17, s18, s19, s20, s21, s22, s23, s24, s25, s26, s27⟩
       go_simp
       with_reducible rfl
      rotate_left
      ·
       simp only [Act.put, List.setIfInBounds_toArray, List.set_cons_zero, List.set_cons_succ, i64_w, i32_w]
       rfl
      refine pure_ (i := 12) (N := some 40) (v := ?_) (a' := ?_) q13_41 rfl rfl (any_of HT_.out (by kernel_rfl)) (fun _ _ _ h => h) (Or.inl ⟨by rfl, ?_⟩) ?_ ?_
      rotate_left
      ·
       intro w'
       go_simp
       with_reducible rfl
      rotate_left
      ·
       simp only [Act.put, List.setIfInBounds_toArray, List.set_cons_zero, List.set_cons_succ, i64_w, i32_w]
       rfl
      refine last_ (i := 13) (N := none) q13_43 rfl rfl (one_of HT_.out (by kernel_rfl)) (by decide) (fun K hK => ?_)
      have hs12 : w11.cell? ⟨gb287, 0, none⟩ = some (.int .i64 x288000_1) := (blk_cell BK287.out 0).trans rfl
      have hfs12 := blk_frozen BK287.out 0
      have hs13 : w11.cell? ⟨gb287, 1, none⟩ = some (.int .i64 x288001_1) := (blk_cell BK287.out 1).trans rfl
      have hfs13 := blk_frozen BK287.out 1
      have hs14 : w11.cell? ⟨gb287, 2, none⟩ = some (.int .i64 x288002_1) := (blk_cell BK287.out 2).trans rfl
      have hfs14 := blk_frozen BK287.out 2
      have hs15 : w11.cell? ⟨gb287, 3, none⟩ = some (.int .i64 x288003_1) := (blk_cell BK287.out 3).trans rfl
      have hfs15 := blk_frozen BK287.out 3
      have hs16 : w11.cell? ⟨gb287, 4, none⟩ = some (.int .i64 x288004_1) := (blk_cell BK287.out 4).trans rfl
      have hfs16 := blk_frozen BK287.out 4
      have hs17 : w11.cell? ⟨gb287, 5, none⟩ = some (.int .i64 x288005_1) := (blk_cell BK287.out 5).trans rfl
      have hfs17 := blk_frozen BK287.out 5
      have hs18 : w11.cell? ⟨gb287, 6, none⟩ = some (.string x288006_1) := (blk_cell BK287.out 6).trans rfl
      have hfs18 := blk_frozen BK287.out 6
      have hs19 : w11.cell? ⟨gb287, 7, none⟩ = some (.int .i64 x288007_1) := (blk_cell BK287.out 7).trans rfl
      have hfs19 := blk_frozen BK287.out 7
      have hs20 : w11.cell? ⟨gb287, 8, none⟩ = some (.slice none 0 0) := (blk_cell BK287.out 8).trans rfl
      have hfs20 := blk_frozen BK287.out 8
      refine skip_ (w1 := ?_) ?shw ?shN ?_ ?_
      case shw => exact rfl
      case shN => exact rfl
      rotate_left
      ·
       go_simp
       rfl
      refine hK.out _ _ ?_
      clear hK K
      refine done_ (done_of HT_.out (by kernel_rfl)) ?_
      try go_wp2
      refine bodyPost_ret (results_cell_row rfl _ _ gb287 37 #[.int .i64 1, .int .i64 ((rd_T35 t288 x8_1).f1.f3.f0), .int .i64 ((rd_T35 t288 x8_1).f1.f3.f1), .int .i64 ((rd_T35 t288 x8_1).f1.f3.f2), .int .i64 ((rd_T35 t288 x8_1).f1.f3.f3), .int .i64 ((rd_T35 t288 x8_1).f1.f3.f4), .string ((rd_T35 t288 x8_1).f1.f3.f5), .int .i64 ((rd_T35 t288 x8_1).f1.f4.f0), .slice A292_13 ((rd_T35 t288 x8_1).f1.f4.f1).length c292_13] (0, 0) _ rfl (by (with_reducible repeat (first | refine blk_drewN ?_ _ | refine blk_drew ?_ | refine blk_alloc ?_ _)); refine blk_put9 (cs := #[.int .i64 x288000_1, .int .i64 x288001_1, .int .i64 x288002_1, .int .i64 x288003_1, .int .i64 x288004_1, .int .i64 x288005_1, .string x288006_1, .int .i64 x288007_1, .slice none 0 0]) ?_ rfl; (with_reducible repeat (first | refine blk_drewN ?_ _ | refine blk_drew ?_ | refine blk_alloc ?_ _)); exact BK287.out) Try.underlying37 rfl (by kernel_rfl)) rfl ?_
      exact ⟨_, by first | rfl | (simp [errW_none, errW_some] <;> rfl) | (simp [*, errW_none, errW_some] <;> rfl), by (with_reducible repeat (first | apply Kd.V_alloc | apply Kd.V_drewN | apply Kd.V_drew)); exact Kd.V_mono (Kd.V_far (p := ⟨gb287, 8, none⟩) (Kd.V_far (p := ⟨gb287, 7, none⟩) (Kd.V_far (p := ⟨gb287, 6, none⟩) (Kd.V_far (p := ⟨gb287, 5, none⟩) (Kd.V_far (p := ⟨gb287, 4, none⟩) (Kd.V_far (p := ⟨gb287, 3, none⟩) (Kd.V_far (p := ⟨gb287, 2, none⟩) (Kd.V_far (p := ⟨gb287, 1, none⟩) (Kd.V_far (p := ⟨gb287, 0, none⟩) (Kd.V_mono HL293_13.out (fun k_ hk => (⟨hk, hk.1.2⟩ : _ ∧ k_ ≠ gb287))) (fun _ hk => hk.2) (.int .i64 1)) (fun _ hk => hk.2) (.int .i64 ((rd_T35 t288 x8_1).f1.f3.f0))) (fun _ hk => hk.2) (.int .i64 ((rd_T35 t288 x8_1).f1.f3.f1))) (fun _ hk => hk.2) (.int .i64 ((rd_T35 t288 x8_1).f1.f3.f2))) (fun _ hk => hk.2) (.int .i64 ((rd_T35 t288 x8_1).f1.f3.f3))) (fun _ hk => hk.2) (.int .i64 ((rd_T35 t288 x8_1).f1.f3.f4))) (fun _ hk => hk.2) (.string ((rd_T35 t288 x8_1).f1.f3.f5))) (fun _ hk => hk.2) (.int .i64 ((rd_T35 t288 x8_1).f1.f4.f0))) (fun _ hk => hk.2) (.slice A292_13 ((rd_T35 t288 x8_1).f1.f4.f1).length c292_13)) (fun _ hk => hk.1.1.1), gw_ HB⟩
     ·
      rw [if_neg c9] at H
      have c9b0 : (((rd_T35 t288 x8_1).f1.f0) == 3) = false := beq_eq_false_iff_ne.mpr c9
      have c9b1 : (((rd_T35 t288 x8_1).f1.f0) != 3) = true := bne_iff_ne.mpr c9
      have H' := Aside0.mk H
      clear H
      obtain ⟨Ao21, co21, eo21⟩ := Kd.N_slice HO_7.out
      subst eo21
      have p291 : 0 ≤ (x8_1 : Int) := of_decide_eq_true (by first | (with_reducible assumption) | assumption)
      have q291 : x8_1 < (t288.length : Int) := of_decide_eq_true (by first | (with_reducible assumption) | assumption)
      obtain ⟨ad291, A291_13, c291_13, e291, hx291_0, hx291_1, hx291_2, hx291_3, hx291_4, hx291_5, hx291_6, hx291_7, hx291_8, hx291_9, hx291_10, hx291_11, hx291_12, hx291_13, hl291_13, hi291_13⟩ := at_T35 (Kd.N_reads' HO_7.out).2.2 x8_1 p291 q291
      cases e291
      obtain ⟨ce291, hce291, hMe291, hcc291⟩ := Kd.N_get HO_7.out z35 x8_1 p291 (by first | exact q291 | exact of_decide_eq_true (by first | (with_reducible assumption) | assumption) | (have e_ := (Kd.N_reads' HO_7.out).1; omega))
      obtain ⟨ua291_13, uc291_13, rfl, ul291_13, ge291_13⟩ := k35_openF hMe291
      have hv291_13 := hcc291 13 _ rfl
      rw [add_field _ _ 13 (by omega)] at hv291_13
      replace hv291_13 := Option.some.inj (hv291_13.symm.trans hx291_13)
      injection hv291_13 with hva_ hvn_ hvc_
      rw [hva_] at ge291_13
      rw [hvc_] at ul291_13
      have HL291_13 := Aside0.mk (show Kd.V (Kd.int .i64) 3 _ w.heap.size _ _ ((rd_T35 t288 x8_1).f1.f4.f1) from Kd.V_mk ul291_13 ge291_13)
      clear hva_ hvn_ hvc_ ge291_13 ul291_13
      clear hcc291 hce291
      have HR291_13 := Aside0.mk hi291_13
      have HC291_13 := Aside0.mk hl291_13
      clear hi291_13 hl291_13
      replace p291 := eq_true p291
      replace q291 := eq_true q291
      go_wp2
      go_roundg k1
      case measure => have := HK1.out; omega
      case rel => exact ⟨(wrap64 (x8_1 + 1)), (x288000_1), (x288001_1), (x288002_1), (x288003_1), (x288004_1), (x288005_1), (x288006_1), (x288007_1), (by first | rfl | (simp; done) | (simp [*]; done)), H', ⟨by have := HK1.out; omega⟩, ⟨by (with_reducible repeat (first | apply Kd.N_alloc | apply Kd.N_drewN | apply Kd.N_drew)); exact HO_7.out⟩, ⟨by (with_reducible repeat (first | refine blk_drewN ?_ _ | refine blk_drew ?_ | refine blk_alloc ?_ _)); exact BK287.out⟩, ⟨gw_ HB⟩⟩
    ·
     rw [if_neg c8] at H
     exact absurd H (by simp)
   ·
    rw [if_neg c7] at H
    have c7b0 : decide (x8_1 < (t288.length : Int)) = false := decide_eq_false c7
    clear c7
    replace H := Option.bind_eq_some_iff.mp H
    obtain ⟨t294, A220, H⟩ := H
    replace H : (if (t288.length : Int) < t294 then (some (0, 0, 0, 0, 0, 0, (⟨#[]⟩ : ByteArray), 0, ([] : List Int))) else ((colloquyref10_best.f k1 t288 2).bind fun t295 => ((colloquyref10_best.f k1 t288 1).bind fun t296 => (if t295 ≥ 0 then (if t296 < 0 then (colloquyref10_Decide.j1 k1 a1 t288 t295 t296 true) else (if 0 ≤ t296 then (if t296 < (t288.length : Int) then (if 0 ≤ t295 then (if t295 < (t288.length : Int) then ((colloquyref07_Cmp.f k1 ((rd_T35 t288 t296).f1.f2.f0) ((rd_T35 t288 t296).f1.f2.f1) ((rd_T35 t288 t295).f1.f2.f0) ((rd_T35 t288 t295).f1.f2.f1)).bind fun t299 => (colloquyref10_Decide.j1 k1 a1 t288 t295 t296 (decide (t299 ≤ 0)))) else (none)) else (none)) else (none)) else (none))) else (colloquyref10_Decide.j1 k1 a1 t288 t295 t296 false))))) = some (r1, r2, r3, r4, r5, r6, r7, r8, r9) := H
    have A22 := Aside0.mk A220
    clear A220
    by_cases c23 : (t288.length : Int) < t294
    ·
     rw [if_pos c23] at H
     have c23b0 : decide ((t288.length : Int) < t294) = true := decide_eq_true c23
     clear c23
     simp only [Option.some.injEq, Prod.mk.injEq] at H
     obtain ⟨rfl, rfl, rfl, rfl, rfl, rfl, rfl, rfl, rfl⟩ := H
     obtain ⟨Ao24, co24, eo24⟩ := Kd.N_slice HO_7.out
     subst eo24
     go_wp2_with (first | ((with_reducible refine gate_callee (f := 14) rfl ?_); refine goesL_ (some 44) rfl rfl Try.func14 (by kernel_rfl) rfl #[.int .i64 a0] rfl (by (try simp only [List.map_toArray, List.map_cons, List.map_nil]); first | done | rfl | (simp only [List.length_drop, List.length_take]; rfl)) ?_; (with_reducible refine (colloquyref10_Quorum.calls a0 t294 _ A22.out).mono ?_); rintro e w' ⟨rfl, ⟨nd, rfl⟩⟩; refine ⟨_, rfl, ?_⟩; (try (rw [drewN_self wr]; generalize hq_ : World.drewN wr _ = wr; have n0_ : Aside0 (Kd.N k35 35 wr w.heap.size (fun k_ => (P2_ k_ ∨ w.heap.size ≤ k_) ∧ k_ ≠ gb287) (.slice Ao24 t288.length co24) t288) := ⟨by rw [← hq_]; exact (Kd.nk HO_7)⟩; have n1_ : Aside0 (wr.heap[gb287]? = some (.cells #[.int .i64 x288000_1, .int .i64 x288001_1, .int .i64 x288002_1, .int .i64 x288003_1, .int .i64 x288004_1, .int .i64 x288005_1, .string x288006_1, .int .i64 x288007_1, .slice none 0 0] 37 (0, 0))) := ⟨by rw [← hq_]; exact (bk BK287)⟩; have n2_ : Aside0 (Below w.heap.size w wr) := ⟨by rw [← hq_]; exact (gw_ HB)⟩; clear HO_7 BK287 HB hq_; have HO_7 := n0_; have BK287 := n1_; have HB := n2_; clear n0_ n1_ n2_)); obtain ⟨hcz25_0, hcz25_1, hcz25_2, hcz25_3, hcz25_4, hcz25_5, hcz25_6, hcz25_7, hcz25_8⟩ := blk_cells9 BK287.out; obtain ⟨hfz25_0, hfz25_1, hfz25_2, hfz25_3, hfz25_4, hfz25_5, hfz25_6, hfz25_7⟩ := blk_frozens8 BK287.out; have hfz25_8 := blk_frozen BK287.out 8))
     refine bodyPost_ret (results_cell_row rfl _ _ gb287 37 #[.int .i64 0, .int .i64 0, .int .i64 0, .int .i64 0, .int .i64 0, .int .i64 0, .string (⟨#[]⟩ : ByteArray), .int .i64 0, .slice none 0 0] (0, 0) _ rfl (by (with_reducible repeat (first | refine blk_drewN ?_ _ | refine blk_drew ?_ | refine blk_alloc ?_ _)); refine blk_put9 (cs := #[.int .i64 x288000_1, .int .i64 x288001_1, .int .i64 x288002_1, .int .i64 x288003_1, .int .i64 x288004_1, .int .i64 x288005_1, .string x288006_1, .int .i64 x288007_1, .slice none 0 0]) ?_ rfl; (with_reducible repeat (first | refine blk_drewN ?_ _ | refine blk_drew ?_ | refine blk_alloc ?_ _)); exact BK287.out) Try.underlying37 rfl (by kernel_rfl)) rfl ?_
     exact ⟨_, by first | rfl | (simp [errW_none, errW_some] <;> rfl) | (simp [*, errW_none, errW_some] <;> rfl), Kd.V_nil _ _ _ _ _, gw_ HB⟩
    ·
     rw [if_neg c23] at H
     have c23b0 : decide ((t288.length : Int) < t294) = false := decide_eq_false c23
     clear c23
     replace H := Option.bind_eq_some_iff.mp H
     obtain ⟨t295, A260, H⟩ := H
     replace H : ((colloquyref10_best.f k1 t288 1).bind fun t296 => (if t295 ≥ 0 then (if t296 < 0 then (colloquyref10_Decide.j1 k1 a1 t288 t295 t296 true) else (if 0 ≤ t296 then (if t296 < (t288.length : Int) then (if 0 ≤ t295 then (if t295 < (t288.length : Int) then ((colloquyref07_Cmp.f k1 ((rd_T35 t288 t296).f1.f2.f0) ((rd_T35 t288 t296).f1.f2.f1) ((rd_T35 t288 t295).f1.f2.f0) ((rd_T35 t288 t295).f1.f2.f1)).bind fun t299 => (colloquyref10_Decide.j1 k1 a1 t288 t295 t296 (decide (t299 ≤ 0)))) else (none)) else (none)) else (none)) else (none))) else (colloquyref10_Decide.j1 k1 a1 t288 t295 t296 false))) = some (r1, r2, r3, r4, r5, r6, r7, r8, r9) := H
     have A26 := Aside0.mk A260
     clear A260
     replace H := Option.bind_eq_some_iff.mp H
     obtain ⟨t296, A270, H⟩ := H
     replace H : (if t295 ≥ 0 then (if t296 < 0 then (colloquyref10_Decide.j1 k1 a1 t288 t295 t296 true) else (if 0 ≤ t296 then (if t296 < (t288.length : Int) then (if 0 ≤ t295 then (if t295 < (t288.length : Int) then ((colloquyref07_Cmp.f k1 ((rd_T35 t288 t296).f1.f2.f0) ((rd_T35 t288 t296).f1.f2.f1) ((rd_T35 t288 t295).f1.f2.f0) ((rd_T35 t288 t295).f1.f2.f1)).bind fun t299 => (colloquyref10_Decide.j1 k1 a1 t288 t295 t296 (decide (t299 ≤ 0)))) else (none)) else (none)) else (none)) else (none))) else (colloquyref10_Decide.j1 k1 a1 t288 t295 t296 false)) = some (r1, r2, r3, r4, r5, r6, r7, r8, r9) := H
     have A27 := Aside0.mk A270
     clear A270
     have HC28 := Aside0.mk H
     clear H
     obtain ⟨Ao29, co29, eo29⟩ := Kd.N_slice HO_7.out
     subst eo29
     go_upto_region 11 with (first | ((with_reducible refine gate_callee (f := 14) rfl ?_); refine goesL_ (some 44) rfl rfl Try.func14 (by kernel_rfl) rfl #[.int .i64 a0] rfl (by (try simp only [List.map_toArray, List.map_cons, List.map_nil]); first | done | rfl | (simp only [List.length_drop, List.length_take]; rfl)) ?_; (with_reducible refine (colloquyref10_Quorum.calls a0 t294 _ A22.out).mono ?_); rintro e w' ⟨rfl, ⟨nd, rfl⟩⟩; refine ⟨_, rfl, ?_⟩) | ((with_reducible refine gate_callee (f := 28) rfl ?_); refine goesL_ (some 48) rfl rfl Try.func28 (by kernel_rfl) rfl #[.slice Ao29 t288.length co29, .int .i64 2] rfl (by (try simp only [List.map_toArray, List.map_cons, List.map_nil]); first | done | rfl | (simp only [List.length_drop, List.length_take]; rfl)) ?_; (with_reducible refine (colloquyref10_best.calls k1 _ _ t288 2 t295 _ ?side1 ?side2 A26.out).mono ?_); (case side1 => repeat (first | exact (Kd.N_reads' HO_7.out).2.2 | (with_reducible refine Kd.C_alloc ?_ _) | (with_reducible refine Kd.C_drewN ?_ _) | (with_reducible refine Kd.C_drew ?_))); (case side2 => exact (Kd.N_reads' HO_7.out).2.1); rintro e w30 ⟨rfl, hb⟩; refine ⟨_, rfl, ?_⟩; have n0_ := Aside0.mk (Kd.N_below (Kd.nk HO_7) hb); have n1_ := Aside0.mk (blk_below (g := gb287) (bk BK287) hb); have n2_ := Aside0.mk (below_step (gw_ HB) hb); clear HO_7; clear BK287; clear HB; have HO_7 := n0_; have BK287 := n1_; have HB := n2_; clear n0_ n1_ n2_; (try clear hb); (try clear hb2); (try clear hk); (try clear hi)) | ((with_reducible refine gate_callee (f := 28) rfl ?_); refine goesL_ (some 50) rfl rfl Try.func28 (by kernel_rfl) rfl #[.slice Ao29 t288.length co29, .int .i64 1] rfl (by (try simp only [List.map_toArray, List.map_cons, List.map_nil]); first | done | rfl | (simp only [List.length_drop, List.length_take]; rfl)) ?_; (with_reducible refine (colloquyref10_best.calls k1 _ _ t288 1 t296 _ ?side1 ?side2 A27.out).mono ?_); (case side1 => repeat (first | exact (Kd.N_reads' HO_7.out).2.2 | (with_reducible refine Kd.C_alloc ?_ _) | (with_reducible refine Kd.C_drewN ?_ _) | (with_reducible refine Kd.C_drew ?_))); (case side2 => exact (Kd.N_reads' HO_7.out).2.1); rintro e w31 ⟨rfl, hb⟩; refine ⟨_, rfl, ?_⟩; have n0_ := Aside0.mk (Kd.N_below (Kd.nk HO_7) hb); have n1_ := Aside0.mk (blk_below (g := gb287) (bk BK287) hb); have n2_ := Aside0.mk (below_step (gw_ HB) hb); clear HO_7; clear BK287; clear HB; have HO_7 := n0_; have BK287 := n1_; have HB := n2_; clear n0_ n1_ n2_; (try clear hb); (try clear hb2); (try clear hk); (try clear hi)))
     (try simp only [Act.put, List.setIfInBounds_toArray, List.set_cons_zero, List.set_cons_succ])
     go_cut [72] (fun v72 wc => ∃ (kq : Nat) (x72_27 : Bool), v72 = .bool x72_27 ∧ Aside0 (colloquyref10_Decide.j1 kq a1 t288 t295 t296 x72_27 = some (r1, r2, r3, r4, r5, r6, r7, r8, r9)) ∧ Aside0 (kq ≤ k1) ∧ Aside0 (Kd.N k35 35 wc w.heap.size (fun k_ => (P2_ k_ ∨ w.heap.size ≤ k_) ∧ k_ ≠ gb287) (.slice Ao29 t288.length co29) t288) ∧ Aside0 (wc.heap[gb287]? = some (.cells #[.int .i64 x288000_1, .int .i64 x288001_1, .int .i64 x288002_1, .int .i64 x288003_1, .int .i64 x288004_1, .int .i64 x288005_1, .string x288006_1, .int .i64 x288007_1, (.slice none 0 0)] 37 (0, 0))) ∧ Aside0 (Below w.heap.size w wc))
     case first =>
      have H := HC28.out
      clear HC28
      by_cases c32 : t295 ≥ 0
      ·
       rw [if_pos c32] at H
       have c32b0 : decide (0 ≤ t295) = true := decide_eq_true c32
       clear c32
       (first | rw [c32b0] | (simp only [i64_w, i32_w]; rw [c32b0]) | skip)
       by_cases c33 : t296 < 0
       ·
        rw [if_pos c33] at H
        have c33b0 : decide (t296 < 0) = true := decide_eq_true c33
        clear c33
        have H' := Aside0.mk H
        clear H
        try go_wp2
        have n0_ := Aside0.mk (Kd.N_drew HO_7.out)
        have n1_ := Aside0.mk (blk_drew BK287.out)
        have n2_ := Aside0.mk (below_drew1 HB.out)
        clear HO_7
        clear BK287
        clear HB
        have HO_7 := n0_
        have BK287 := n1_
        have HB := n2_
        clear n0_ n1_ n2_
        refine start_ (n := 22) (S := fun w' => True) (ds := []) q13_0 (by kernel_rfl) rfl rfl trivial (fun hHeld => ?_); refine with_tabW colloquyref10_Decide.tab11 colloquyref10_Decide.bits11 (fun HT_ HW_ => ?_)
        generalize w31.drew = w34 at HO_7 BK287 HB hHeld ⊢
        refine pure_ (i := 0) (N := some 51) (v := ?_) (a' := ?_) q13_1 rfl rfl (any_of HT_.out (by kernel_rfl)) (fun _ _ _ h => h) (Or.inl ⟨by rfl, ?_⟩) ?_ ?_
        rotate_left
        ·
         intro w'
         go_simp
         with_reducible rfl
        rotate_left
        ·
         simp only [Act.put, List.setIfInBounds_toArray, List.set_cons_zero, List.set_cons_succ, i64_w, i32_w]
         rfl
        refine pure_ (i := 1) (N := some 52) (v := ?_) (a' := ?_) q13_2 rfl rfl (any_of HT_.out (by kernel_rfl)) (fun _ _ _ h => h) (Or.inl ⟨by rfl, ?_⟩) ?_ ?_
        rotate_left
        ·
         intro w'
         go_simp
         with_reducible rfl
        rotate_left
        ·
         simp only [Act.put, List.setIfInBounds_toArray, List.set_cons_zero, List.set_cons_succ, i64_w, i32_w]
         rfl
        refine pure_ (i := 2) (N := some 53) (v := ?_) (a' := ?_) q13_3 rfl rfl (any_of HT_.out (by kernel_rfl)) (fun _ _ _ h => h) (Or.inl ⟨by rfl, ?_⟩) ?_ ?_
        rotate_left
        ·
         intro w'
         go_simp
         with_reducible rfl
        rotate_left
        ·
         simp only [Act.put, List.setIfInBounds_toArray, List.set_cons_zero, List.set_cons_succ, i64_w, i32_w]
         rfl
        refine pure_ (i := 3) (N := some 54) (v := ?_) (a' := ?_) q13_4 rfl rfl (any_of HT_.out (by kernel_rfl)) (fun _ _ _ h => h) (Or.inl ⟨by rfl, ?_⟩) ?_ ?_
        rotate_left
        ·
         intro w'
         go_simp
         with_reducible rfl
        rotate_left
        ·
         simp only [Act.put, List.setIfInBounds_toArray, List.set_cons_zero, List.set_cons_succ, i64_w, i32_w]
         rfl
        refine pure_ (i := 4) (N := some 55) (v := ?_) (a' := ?_) q13_5 rfl rfl (any_of HT_.out (by kernel_rfl)) (fun _ _ _ h => h) (Or.inl ⟨by rfl, ?_⟩) ?_ ?_
        rotate_left
        ·
         intro w'
         go_simp
         with_reducible rfl
        rotate_left
        ·
         simp only [Act.put, List.setIfInBounds_toArray, List.set_cons_zero, List.set_cons_succ, i64_w, i32_w]
         rfl
        refine pure_ (i := 5) (N := some 56) (v := ?_) (a' := ?_) q13_6 rfl rfl (any_of HT_.out (by kernel_rfl)) (fun _ _ _ h => h) (Or.inl ⟨by rfl, ?_⟩) ?_ ?_
        rotate_left
        ·
         intro w'
         go_simp
         with_reducible rfl
        rotate_left
        ·
         simp only [Act.put, List.setIfInBounds_toArray, List.set_cons_zero, List.set_cons_succ, i64_w, i32_w]
         rfl
        refine pure_ (i := 6) (N := some 57) (v := undef) (a' := ?_) q13_7 rfl rfl (any_of HT_.out (by kernel_rfl)) (fun _ _ _ h => h) (Or.inr ⟨by rfl, rfl⟩) ?_ ?_
        rotate_left
        ·
         simp only [Act.put, List.setIfInBounds_toArray, List.set_cons_zero, List.set_cons_succ, i64_w, i32_w]
         rfl
        refine pure_ (i := 7) (N := some 58) (v := undef) (a' := ?_) q13_8 rfl rfl (any_of HT_.out (by kernel_rfl)) (fun _ _ _ h => h) (Or.inr ⟨by rfl, rfl⟩) ?_ ?_
        rotate_left
        ·
         simp only [Act.put, List.setIfInBounds_toArray, List.set_cons_zero, List.set_cons_succ, i64_w, i32_w]
         rfl
        refine pure_ (i := 8) (N := some 59) (v := undef) (a' := ?_) q13_9 rfl rfl (any_of HT_.out (by kernel_rfl)) (fun _ _ _ h => h) (Or.inr ⟨by rfl, rfl⟩) ?_ ?_
        rotate_left
        ·
         simp only [Act.put, List.setIfInBounds_toArray, List.set_cons_zero, List.set_cons_succ, i64_w, i32_w]
         rfl
        refine pure_ (i := 9) (N := some 60) (v := undef) (a' := ?_) q13_10 rfl rfl (any_of HT_.out (by kernel_rfl)) (fun _ _ _ h => h) (Or.inr ⟨by rfl, rfl⟩) ?_ ?_
        rotate_left
        ·
         simp only [Act.put, List.setIfInBounds_toArray, List.set_cons_zero, List.set_cons_succ, i64_w, i32_w]
         rfl
        refine pure_ (i := 10) (N := some 61) (v := undef) (a' := ?_) q13_11 rfl rfl (any_of HT_.out (by kernel_rfl)) (fun _ _ _ h => h) (Or.inr ⟨by rfl, rfl⟩) ?_ ?_
        rotate_left
        ·
         simp only [Act.put, List.setIfInBounds_toArray, List.set_cons_zero, List.set_cons_succ, i64_w, i32_w]
         rfl
        refine pure_ (i := 11) (N := some 62) (v := undef) (a' := ?_) q13_13 rfl rfl (any_of HT_.out (by kernel_rfl)) (fun _ _ _ h => h) (Or.inr ⟨by rfl, rfl⟩) ?_ ?_
        rotate_left
        ·
         simp only [Act.put, List.setIfInBounds_toArray, List.set_cons_zero, List.set_cons_succ, i64_w, i32_w]
         rfl
        refine pure_ (i := 12) (N := some 63) (v := undef) (a' := ?_) q13_15 rfl rfl (any_of HT_.out (by kernel_rfl)) (fun _ _ _ h => h) (Or.inr ⟨by rfl, rfl⟩) ?_ ?_
        rotate_left
        ·
         simp only [Act.put, List.setIfInBounds_toArray, List.set_cons_zero, List.set_cons_succ, i64_w, i32_w]
         rfl
        refine pure_ (i := 13) (N := some 64) (v := undef) (a' := ?_) q13_17 rfl rfl (any_of HT_.out (by kernel_rfl)) (fun _ _ _ h => h) (Or.inr ⟨by rfl, rfl⟩) ?_ ?_
        rotate_left
        ·
         simp only [Act.put, List.setIfInBounds_toArray, List.set_cons_zero, List.set_cons_succ, i64_w, i32_w]
         rfl
        refine pure_ (i := 14) (N := some 65) (v := undef) (a' := ?_) q13_19 rfl rfl (any_of HT_.out (by kernel_rfl)) (fun _ _ _ h => h) (Or.inr ⟨by rfl, rfl⟩) ?_ ?_
        rotate_left
        ·
         simp only [Act.put, List.setIfInBounds_toArray, List.set_cons_zero, List.set_cons_succ, i64_w, i32_w]
         rfl
        refine pure_ (i := 15) (N := some 66) (v := undef) (a' := ?_) q13_21 rfl rfl (any_of HT_.out (by kernel_rfl)) (fun _ _ _ h => h) (Or.inr ⟨by rfl, rfl⟩) ?_ ?_
        rotate_left
        ·
         simp only [Act.put, List.setIfInBounds_toArray, List.set_cons_zero, List.set_cons_succ, i64_w, i32_w]
         rfl
        refine pure_ (i := 16) (N := some 67) (v := undef) (a' := ?_) q13_22 rfl rfl (any_of HT_.out (by kernel_rfl)) (fun _ _ _ h => h) (Or.inr ⟨by rfl, rfl⟩) ?_ ?_
        rotate_left
        ·
         simp only [Act.put, List.setIfInBounds_toArray, List.set_cons_zero, List.set_cons_succ, i64_w, i32_w]
         rfl
        refine pure_ (i := 17) (N := some 68) (v := undef) (a' := ?_) q13_23 rfl rfl (any_of HT_.out (by kernel_rfl)) (fun _ _ _ h => h) (Or.inr ⟨by rfl, rfl⟩) ?_ ?_
        rotate_left
        ·
         simp only [Act.put, List.setIfInBounds_toArray, List.set_cons_zero, List.set_cons_succ, i64_w, i32_w]
         rfl
        refine pure_ (i := 18) (N := some 69) (v := undef) (a' := ?_) q13_24 rfl rfl (any_of HT_.out (by kernel_rfl)) (fun _ _ _ h => h) (Or.inr ⟨by rfl, rfl⟩) ?_ ?_
        rotate_left
        ·
         simp only [Act.put, List.setIfInBounds_toArray, List.set_cons_zero, List.set_cons_succ, i64_w, i32_w]
         rfl
        refine pure_ (i := 19) (N := some 70) (v := undef) (a' := ?_) q13_25 rfl rfl (any_of HT_.out (by kernel_rfl)) (fun _ _ _ h => h) (Or.inr ⟨by rfl, rfl⟩) ?_ ?_
        rotate_left
        ·
         simp only [Act.put, List.setIfInBounds_toArray, List.set_cons_zero, List.set_cons_succ, i64_w, i32_w]
         rfl
        refine pure_ (i := 20) (N := some 71) (v := ?_) (a' := ?_) q13_26 rfl rfl (any_of HT_.out (by kernel_rfl)) (fun _ _ _ h => h) (Or.inl ⟨by rfl, ?_⟩) ?_ ?_
        rotate_left
        ·
         intro w'
         go_simp
         with_reducible rfl
        rotate_left
        ·
         simp only [Act.put, List.setIfInBounds_toArray, List.set_cons_zero, List.set_cons_succ, i64_w, i32_w]
         rfl
        refine pure_ (i := 21) (N := some 72) (v := ?_) (a' := ?_) q13_27 rfl rfl (any_of HT_.out (by kernel_rfl)) (fun _ _ _ h => h) (Or.inl ⟨by rfl, ?_⟩) ?_ ?_
        rotate_left
        ·
         intro w'
         go_simp
         with_reducible rfl
        rotate_left
        ·
         simp only [Act.put, List.setIfInBounds_toArray, List.set_cons_zero, List.set_cons_succ, i64_w, i32_w]
         rfl
        refine done_ (done_of HT_.out (by kernel_rfl)) ?_
        try go_wp2
        go_meet
        case rel => exact ⟨_, (true), (by first | rfl | (simp; done) | (simp [*]; done)), H', ⟨by have := HK1.out; first | omega | exact Nat.le_refl _⟩, ⟨by (with_reducible repeat (first | apply Kd.N_alloc | apply Kd.N_drewN | apply Kd.N_drew)); exact HO_7.out⟩, ⟨by (with_reducible repeat (first | refine blk_drewN ?_ _ | refine blk_drew ?_ | refine blk_alloc ?_ _)); exact BK287.out⟩, ⟨gw_ HB⟩⟩
       ·
        rw [if_neg c33] at H
        have c33b0 : decide (t296 < 0) = false := decide_eq_false c33
        clear c33
        by_cases c35 : 0 ≤ t296
        ·
         rw [if_pos c35] at H
         have c35b0 : decide (0 ≤ t296) = true := decide_eq_true c35
         clear c35
         by_cases c36 : t296 < (t288.length : Int)
         ·
          rw [if_pos c36] at H
          have c36b0 : decide (t296 < (t288.length : Int)) = true := decide_eq_true c36
          clear c36
          by_cases c37 : 0 ≤ t295
          ·
           rw [if_pos c37] at H
           have c37b0 : decide (0 ≤ t295) = true := decide_eq_true c37
           clear c37
           by_cases c38 : t295 < (t288.length : Int)
           ·
            rw [if_pos c38] at H
            have c38b0 : decide (t295 < (t288.length : Int)) = true := decide_eq_true c38
            clear c38
            replace H := Option.bind_eq_some_iff.mp H
            obtain ⟨t299, A390, H⟩ := H
            replace H : (colloquyref10_Decide.j1 k1 a1 t288 t295 t296 (decide (t299 ≤ 0))) = some (r1, r2, r3, r4, r5, r6, r7, r8, r9) := H
            have A39 := Aside0.mk A390
            clear A390
            have H' := Aside0.mk H
            clear H
            try go_wp2
            have n0_ := Aside0.mk (Kd.N_drew HO_7.out)
            have n1_ := Aside0.mk (blk_drew BK287.out)
            have n2_ := Aside0.mk (below_drew1 HB.out)
            clear HO_7
            clear BK287
            clear HB
            have HO_7 := n0_
            have BK287 := n1_
            have HB := n2_
            clear n0_ n1_ n2_
            have p297 : 0 ≤ (t296 : Int) := of_decide_eq_true (by first | (with_reducible assumption) | assumption)
            have q297 : t296 < (t288.length : Int) := of_decide_eq_true (by first | (with_reducible assumption) | assumption)
            obtain ⟨ad297, A297_13, c297_13, e297, hx297_0, hx297_1, hx297_2, hx297_3, hx297_4, hx297_5, hx297_6, hx297_7, hx297_8, hx297_9, hx297_10, hx297_11, hx297_12, hx297_13, hl297_13, hi297_13⟩ := at_T35 (Kd.N_reads' HO_7.out).2.2 t296 p297 q297
            cases e297
            obtain ⟨ce297, hce297, hMe297, hcc297⟩ := Kd.N_get HO_7.out z35 t296 p297 (by first | exact q297 | exact of_decide_eq_true (by first | (with_reducible assumption) | assumption) | (have e_ := (Kd.N_reads' HO_7.out).1; omega))
            obtain ⟨ua297_13, uc297_13, rfl, ul297_13, ge297_13⟩ := k35_openF hMe297
            have hv297_13 := hcc297 13 _ rfl
            rw [add_field _ _ 13 (by omega)] at hv297_13
            replace hv297_13 := Option.some.inj (hv297_13.symm.trans hx297_13)
            injection hv297_13 with hva_ hvn_ hvc_
            rw [hva_] at ge297_13
            rw [hvc_] at ul297_13
            have HL297_13 := Aside0.mk (show Kd.V (Kd.int .i64) 3 _ w.heap.size _ _ ((rd_T35 t288 t296).f1.f4.f1) from Kd.V_mk ul297_13 ge297_13)
            clear hva_ hvn_ hvc_ ge297_13 ul297_13
            clear hcc297 hce297
            have HR297_13 := Aside0.mk hi297_13
            have HC297_13 := Aside0.mk hl297_13
            clear hi297_13 hl297_13
            replace p297 := eq_true p297
            replace q297 := eq_true q297
            have p298 : 0 ≤ (t295 : Int) := of_decide_eq_true (by first | (with_reducible assumption) | assumption)
            have q298 : t295 < (t288.length : Int) := of_decide_eq_true (by first | (with_reducible assumption) | assumption)
            obtain ⟨ad298, A298_13, c298_13, e298, hx298_0, hx298_1, hx298_2, hx298_3, hx298_4, hx298_5, hx298_6, hx298_7, hx298_8, hx298_9, hx298_10, hx298_11, hx298_12, hx298_13, hl298_13, hi298_13⟩ := at_T35 (Kd.N_reads' HO_7.out).2.2 t295 p298 q298
            obtain rfl : ad297 = ad298 := (by injection e298)
            obtain ⟨ce298, hce298, hMe298, hcc298⟩ := Kd.N_get HO_7.out z35 t295 p298 (by first | exact q298 | exact of_decide_eq_true (by first | (with_reducible assumption) | assumption) | (have e_ := (Kd.N_reads' HO_7.out).1; omega))
            obtain ⟨ua298_13, uc298_13, rfl, ul298_13, ge298_13⟩ := k35_openF hMe298
            have hv298_13 := hcc298 13 _ rfl
            rw [add_field _ _ 13 (by omega)] at hv298_13
            replace hv298_13 := Option.some.inj (hv298_13.symm.trans hx298_13)
            injection hv298_13 with hva_ hvn_ hvc_
            rw [hva_] at ge298_13
            rw [hvc_] at ul298_13
            have HL298_13 := Aside0.mk (show Kd.V (Kd.int .i64) 3 _ w.heap.size _ _ ((rd_T35 t288 t295).f1.f4.f1) from Kd.V_mk ul298_13 ge298_13)
            clear hva_ hvn_ hvc_ ge298_13 ul298_13
            clear hcc298 hce298
            have HR298_13 := Aside0.mk hi298_13
            have HC298_13 := Aside0.mk hl298_13
            clear hi298_13 hl298_13
            replace p298 := eq_true p298
            replace q298 := eq_true q298
            refine start_ (n := 22) (S := fun w' => w'.cell? (ad297.add ((t296).toNat * 14)) = some (.int .i64 ((rd_T35 t288 t296).f0)) ∧ w'.cell? ⟨(ad297.add ((t296).toNat * 14)).block, (ad297.add ((t296).toNat * 14)).off + 1, none⟩ = some (.int .i64 ((rd_T35 t288 t296).f1.f0)) ∧ w'.cell? ⟨(ad297.add ((t296).toNat * 14)).block, (ad297.add ((t296).toNat * 14)).off + 2, none⟩ = some (.int .i64 ((rd_T35 t288 t296).f1.f1.f0)) ∧ w'.cell? ⟨(ad297.add ((t296).toNat * 14)).block, (ad297.add ((t296).toNat * 14)).off + 3, none⟩ = some (.int .i64 ((rd_T35 t288 t296).f1.f1.f1)) ∧ w'.cell? ⟨(ad297.add ((t296).toNat * 14)).block, (ad297.add ((t296).toNat * 14)).off + 4, none⟩ = some (.int .i64 ((rd_T35 t288 t296).f1.f2.f0)) ∧ w'.cell? ⟨(ad297.add ((t296).toNat * 14)).block, (ad297.add ((t296).toNat * 14)).off + 5, none⟩ = some (.int .i64 ((rd_T35 t288 t296).f1.f2.f1)) ∧ w'.cell? ⟨(ad297.add ((t296).toNat * 14)).block, (ad297.add ((t296).toNat * 14)).off + 6, none⟩ = some (.int .i64 ((rd_T35 t288 t296).f1.f3.f0)) ∧ w'.cell? ⟨(ad297.add ((t296).toNat * 14)).block, (ad297.add ((t296).toNat * 14)).off + 7, none⟩ = some (.int .i64 ((rd_T35 t288 t296).f1.f3.f1)) ∧ w'.cell? ⟨(ad297.add ((t296).toNat * 14)).block, (ad297.add ((t296).toNat * 14)).off + 8, none⟩ = some (.int .i64 ((rd_T35 t288 t296).f1.f3.f2)) ∧ w'.cell? ⟨(ad297.add ((t296).toNat * 14)).block, (ad297.add ((t296).toNat * 14)).off + 9, none⟩ = some (.int .i64 ((rd_T35 t288 t296).f1.f3.f3)) ∧ w'.cell? ⟨(ad297.add ((t296).toNat * 14)).block, (ad297.add ((t296).toNat * 14)).off + 10, none⟩ = some (.int .i64 ((rd_T35 t288 t296).f1.f3.f4)) ∧ w'.cell? ⟨(ad297.add ((t296).toNat * 14)).block, (ad297.add ((t296).toNat * 14)).off + 11, none⟩ = some (.string ((rd_T35 t288 t296).f1.f3.f5)) ∧ w'.cell? ⟨(ad297.add ((t296).toNat * 14)).block, (ad297.add ((t296).toNat * 14)).off + 12, none⟩ = some (.int .i64 ((rd_T35 t288 t296).f1.f4.f0)) ∧ w'.cell? ⟨(ad297.add ((t296).toNat * 14)).block, (ad297.add ((t296).toNat * 14)).off + 13, none⟩ = some (.slice A297_13 ((rd_T35 t288 t296).f1.f4.f1).length c297_13) ∧ w'.cell? (ad297.add ((t295).toNat * 14)) = some (.int .i64 ((rd_T35 t288 t295).f0)) ∧ w'.cell? ⟨(ad297.add ((t295).toNat * 14)).block, (ad297.add ((t295).toNat * 14)).off + 1, none⟩ = some (.int .i64 ((rd_T35 t288 t295).f1.f0)) ∧ w'.cell? ⟨(ad297.add ((t295).toNat * 14)).block, (ad297.add ((t295).toNat * 14)).off + 2, none⟩ = some (.int .i64 ((rd_T35 t288 t295).f1.f1.f0)) ∧ w'.cell? ⟨(ad297.add ((t295).toNat * 14)).block, (ad297.add ((t295).toNat * 14)).off + 3, none⟩ = some (.int .i64 ((rd_T35 t288 t295).f1.f1.f1)) ∧ w'.cell? ⟨(ad297.add ((t295).toNat * 14)).block, (ad297.add ((t295).toNat * 14)).off + 4, none⟩ = some (.int .i64 ((rd_T35 t288 t295).f1.f2.f0)) ∧ w'.cell? ⟨(ad297.add ((t295).toNat * 14)).block, (ad297.add ((t295).toNat * 14)).off + 5, none⟩ = some (.int .i64 ((rd_T35 t288 t295).f1.f2.f1)) ∧ w'.cell? ⟨(ad297.add ((t295).toNat * 14)).block, (ad297.add ((t295).toNat * 14)).off + 6, none⟩ = some (.int .i64 ((rd_T35 t288 t295).f1.f3.f0)) ∧ w'.cell? ⟨(ad297.add ((t295).toNat * 14)).block, (ad297.add ((t295).toNat * 14)).off + 7, none⟩ = some (.int .i64 ((rd_T35 t288 t295).f1.f3.f1)) ∧ w'.cell? ⟨(ad297.add ((t295).toNat * 14)).block, (ad297.add ((t295).toNat * 14)).off + 8, none⟩ = some (.int .i64 ((rd_T35 t288 t295).f1.f3.f2)) ∧ w'.cell? ⟨(ad297.add ((t295).toNat * 14)).block, (ad297.add ((t295).toNat * 14)).off + 9, none⟩ = some (.int .i64 ((rd_T35 t288 t295).f1.f3.f3)) ∧ w'.cell? ⟨(ad297.add ((t295).toNat * 14)).block, (ad297.add ((t295).toNat * 14)).off + 10, none⟩ = some (.int .i64 ((rd_T35 t288 t295).f1.f3.f4)) ∧ w'.cell? ⟨(ad297.add ((t295).toNat * 14)).block, (ad297.add ((t295).toNat * 14)).off + 11, none⟩ = some (.string ((rd_T35 t288 t295).f1.f3.f5)) ∧ w'.cell? ⟨(ad297.add ((t295).toNat * 14)).block, (ad297.add ((t295).toNat * 14)).off + 12, none⟩ = some (.int .i64 ((rd_T35 t288 t295).f1.f4.f0)) ∧ w'.cell? ⟨(ad297.add ((t295).toNat * 14)).block, (ad297.add ((t295).toNat * 14)).off + 13, none⟩ = some (.slice A298_13 ((rd_T35 t288 t295).f1.f4.f1).length c298_13)) (ds := []) q13_0 (by kernel_rfl) rfl rfl ⟨hx297_0, hx297_1, hx297_2, hx297_3, hx297_4, hx297_5, hx297_6, hx297_7, hx297_8, hx297_9, hx297_10, hx297_11, hx297_12, hx297_13, hx298_0, hx298_1, hx298_2, hx298_3, hx298_4, hx298_5, hx298_6, hx298_7, hx298_8, hx298_9, hx298_10, hx298_11, hx298_12, hx298_13⟩ (fun hHeld => ?_); refine with_tabW colloquyref10_Decide.tab11 colloquyref10_Decide.bits11 (fun HT_ HW_ => ?_)
            generalize w31.drew = w40 at HO_7 BK287 HB HL297_13 HL298_13 HR297_13 HR298_13 hx297_0 hx297_1 hx297_10 hx297_11 hx297_12 hx297_13 hx297_2 hx297_3 hx297_4 hx297_5 hx297_6 hx297_7 hx297_8 hx297_9 hx298_0 hx298_1 hx298_10 hx298_11 hx298_12 hx298_13 hx298_2 hx298_3 hx298_4 hx298_5 hx298_6 hx298_7 hx298_8 hx298_9 hHeld ⊢
            refine pure_ (i := 0) (N := some 51) (v := ?_) (a' := ?_) q13_1 rfl rfl (any_of HT_.out (by kernel_rfl)) (fun _ _ _ h => h) (Or.inl ⟨by rfl, ?_⟩) ?_ ?_
            rotate_left
            ·
             intro w'
             go_simp
             with_reducible rfl
            rotate_left
            ·
             simp only [Act.put, List.setIfInBounds_toArray, List.set_cons_zero, List.set_cons_succ, i64_w, i32_w]
             rfl
            refine pure_ (i := 1) (N := some 52) (v := ?_) (a' := ?_) q13_2 rfl rfl (any_of HT_.out (by kernel_rfl)) (fun _ _ _ h => h) (Or.inl ⟨by rfl, ?_⟩) ?_ ?_
            rotate_left
            ·
             intro w'
             go_simp
             with_reducible rfl
            rotate_left
            ·
             simp only [Act.put, List.setIfInBounds_toArray, List.set_cons_zero, List.set_cons_succ, i64_w, i32_w]
             rfl
            refine pure_ (i := 2) (N := some 53) (v := ?_) (a' := ?_) q13_3 rfl rfl (any_of HT_.out (by kernel_rfl)) (fun _ _ _ h => h) (Or.inl ⟨by rfl, ?_⟩) ?_ ?_
            rotate_left
            ·
             intro w'
             go_simp
             with_reducible rfl
            rotate_left
            ·
             simp only [Act.put, List.setIfInBounds_toArray, List.set_cons_zero, List.set_cons_succ, i64_w, i32_w]
             rfl
            refine pure_ (i := 3) (N := some 54) (v := ?_) (a' := ?_) q13_4 rfl rfl (any_of HT_.out (by kernel_rfl)) (fun _ _ _ h => h) (Or.inl ⟨by rfl, ?_⟩) ?_ ?_
            rotate_left
            ·
             intro w'
             go_simp
             with_reducible rfl
            rotate_left
            ·
             simp only [Act.put, List.setIfInBounds_toArray, List.set_cons_zero, List.set_cons_succ, i64_w, i32_w]
             rfl
            refine pure_ (i := 4) (N := some 55) (v := ?_) (a' := ?_) q13_5 rfl rfl (any_of HT_.out (by kernel_rfl)) (fun _ _ _ h => h) (Or.inl ⟨by rfl, ?_⟩) ?_ ?_
            rotate_left
            ·
             intro w'
             go_simp
             with_reducible rfl
            rotate_left
            ·
             simp only [Act.put, List.setIfInBounds_toArray, List.set_cons_zero, List.set_cons_succ, i64_w, i32_w]
             rfl
            refine pure_ (i := 5) (N := some 56) (v := ?_) (a' := ?_) q13_6 rfl rfl (any_of HT_.out (by kernel_rfl)) (fun _ _ _ h => h) (Or.inl ⟨by rfl, ?_⟩) ?_ ?_
            rotate_left
            ·
             intro w'
             go_simp
             with_reducible rfl
            rotate_left
            ·
             simp only [Act.put, List.setIfInBounds_toArray, List.set_cons_zero, List.set_cons_succ, i64_w, i32_w]
             rfl
            refine pure_ (i := 6) (N := some 57) (v := ?_) (a' := ?_) q13_7 rfl rfl (any_of HT_.out (by kernel_rfl)) (fun _ _ _ h => h) (Or.inl ⟨by rfl, ?_⟩) ?_ ?_
            rotate_left
            ·
             intro w'
             go_simp
             with_reducible rfl
            rotate_left
            ·
             simp only [Act.put, List.setIfInBounds_toArray, List.set_cons_zero, List.set_cons_succ, i64_w, i32_w]
             rfl
            refine pure_ (i := 7) (N := some 58) (v := ?_) (a' := ?_) q13_8 rfl rfl (any_of HT_.out (by kernel_rfl)) (fun _ _ _ h => h) (Or.inl ⟨by rfl, ?_⟩) ?_ ?_
            rotate_left
            ·
             intro w'
             go_simp
             with_reducible rfl
            rotate_left
            ·
             simp only [Act.put, List.setIfInBounds_toArray, List.set_cons_zero, List.set_cons_succ, i64_w, i32_w]
             rfl
            refine pure_ (i := 8) (N := some 59) (v := ?_) (a' := ?_) q13_9 rfl rfl (any_of HT_.out (by kernel_rfl)) (fun _ _ _ h => h) (Or.inl ⟨by rfl, ?_⟩) ?_ ?_
            rotate_left
            ·
             intro w'
             go_simp
             with_reducible rfl
            rotate_left
            ·
             simp only [Act.put, List.setIfInBounds_toArray, List.set_cons_zero, List.set_cons_succ, i64_w, i32_w]
             rfl
            refine pure_ (i := 9) (N := some 60) (v := ?_) (a' := ?_) q13_10 rfl rfl (any_of HT_.out (by kernel_rfl)) (fun _ _ _ h => h) (Or.inl ⟨by rfl, ?_⟩) ?_ ?_
            rotate_left
            ·
             intro w'
             go_simp
             with_reducible rfl
            rotate_left
            ·
             simp only [Act.put, List.setIfInBounds_toArray, List.set_cons_zero, List.set_cons_succ, i64_w, i32_w]
             rfl
            refine pure_ (i := 10) (N := some 61) (v := ?_) (a' := ?_) q13_11 rfl rfl (any_of HT_.out (by kernel_rfl)) (fun _ _ _ h => h) (Or.inl ⟨by rfl, ?_⟩) ?_ ?_
            rotate_left
            ·
             intro w'
             go_simp
             with_reducible rfl
            rotate_left
            ·
             simp only [Act.put, List.setIfInBounds_toArray, List.set_cons_zero, List.set_cons_succ, i64_w, i32_w]
             rfl
            refine pure_ (i := 12) (N := some 63) (v := ?_) (a' := ?_) q13_12 rfl rfl (any_of HT_.out (by kernel_rfl)) (fun _ _ _ h => h) (Or.inl ⟨by rfl, ?_⟩) ?_ ?_
            rotate_left
            ·
             intro w'
             go_simp
             with_reducible rfl
            rotate_left
            ·
             simp only [Act.put, List.setIfInBounds_toArray, List.set_cons_zero, List.set_cons_succ, i64_w, i32_w]
             rfl
            refine pure_ (i := 13) (N := some 64) (v := ?_) (a' := ?_) q13_14 rfl rfl (any_of HT_.out (by kernel_rfl)) (fun _ _ _ h => h) (Or.inl ⟨by rfl, ?_⟩) ?_ ?_
            rotate_left
            ·
             intro w'
             go_simp
             with_reducible rfl
            rotate_left
            ·
             simp only [Act.put, List.setIfInBounds_toArray, List.set_cons_zero, List.set_cons_succ, i64_w, i32_w]
             rfl
            refine pure_ (i := 14) (N := some 65) (v := ?_) (a' := ?_) q13_16 rfl rfl (any_of HT_.out (by kernel_rfl)) (fun _ _ _ h => h) (Or.inl ⟨by rfl, ?_⟩) ?_ ?_
            rotate_left
            ·
             intro w'
             go_simp
             with_reducible rfl
            rotate_left
            ·
             simp only [Act.put, List.setIfInBounds_toArray, List.set_cons_zero, List.set_cons_succ, i64_w, i32_w]
             rfl
            refine pure_ (i := 15) (N := some 66) (v := ?_) (a' := ?_) q13_18 rfl rfl (any_of HT_.out (by kernel_rfl)) (fun _ _ _ h => h) (Or.inl ⟨by rfl, ?_⟩) ?_ ?_
            rotate_left
            ·
             intro w'
             go_simp
             with_reducible rfl
            rotate_left
            ·
             simp only [Act.put, List.setIfInBounds_toArray, List.set_cons_zero, List.set_cons_succ, i64_w, i32_w]
             rfl
            refine pure_ (i := 16) (N := some 67) (v := ?_) (a' := ?_) q13_20 rfl rfl (any_of HT_.out (by kernel_rfl)) (fun _ _ _ h => h) (Or.inl ⟨by rfl, ?_⟩) ?_ ?_
            rotate_left
            ·
             intro w'
             go_simp
             with_reducible rfl
            rotate_left
            ·
             simp only [Act.put, List.setIfInBounds_toArray, List.set_cons_zero, List.set_cons_succ, i64_w, i32_w]
             rfl
            refine take_ (i := 11) (N := some 62) (v := ?_) (a' := ?_) q13_22 rfl rfl (take_ofW HT_.out HW_.out (by kernel_rfl)) (fun _ _ _ h => h) (Or.inl ⟨by rfl, ?_⟩) hHeld ?_ ?_
            rotate_left
            ·
             rintro w' ⟨s0, s1, s2, s3, s4, s5, s6, s7, s8, s9, s10, s11, s12, s13, s14, s15, s16, s17, s18, s19, s20, s21, s22, s23, s24, s25, s26, s27⟩
             go_simp
             with_reducible rfl
            rotate_left
            ·
             simp only [Act.put, List.setIfInBounds_toArray, List.set_cons_zero, List.set_cons_succ, i64_w, i32_w]
             rfl
            refine take_ (i := 17) (N := some 68) (v := ?_) (a' := ?_) q13_23 rfl rfl (take_ofW HT_.out HW_.out (by kernel_rfl)) (fun _ _ _ h => h) (Or.inl ⟨by rfl, ?_⟩) hHeld ?_ ?_
            rotate_left
            ·
             rintro w' ⟨s0, s1, s2, s3, s4, s5, s6, s7, s8, s9, s10, s11, s12, s13, s14, s15, s16, s17, s18, s19, s20, s21, s22, s23, s24, s25, s26, s27⟩
             go_simp
             with_reducible rfl
            rotate_left
            ·
             simp only [Act.put, List.setIfInBounds_toArray, List.set_cons_zero, List.set_cons_succ, i64_w, i32_w]
             rfl
            refine one_ (i := 18) (N := some 69) q13_24 rfl rfl (one_of HT_.out (by kernel_rfl)) (by decide) (fun K hK => ?_)
            refine goes_ Try.func29 (by kernel_rfl) rfl #[.agg #[.int .i64 ((rd_T35 t288 t296).f1.f2.f0), .int .i64 ((rd_T35 t288 t296).f1.f2.f1)], .agg #[.int .i64 ((rd_T35 t288 t295).f1.f2.f0), .int .i64 ((rd_T35 t288 t295).f1.f2.f1)]] (by rfl) rfl rfl (by (try simp only [List.map_toArray, List.map_cons, List.map_nil]); first | done | rfl | (simp only [List.length_drop, List.length_take]; rfl)) ?_
            with_reducible refine (colloquyref07_Cmp.calls k1 ((rd_T35 t288 t296).f1.f2.f0) ((rd_T35 t288 t296).f1.f2.f1) ((rd_T35 t288 t295).f1.f2.f0) ((rd_T35 t288 t295).f1.f2.f1) t299 _ A39.out).mono ?_
            rintro e w41 ⟨rfl, hb⟩
            have HS0_ := (hb.cell (World.block_lt_of_cell? _ _ (hHeld.1))).trans (hHeld.1)
            have HS1_ := (hb.cell (World.block_lt_of_cell? _ _ (hHeld.2.1))).trans (hHeld.2.1)
            have HS2_ := (hb.cell (World.block_lt_of_cell? _ _ (hHeld.2.2.1))).trans (hHeld.2.2.1)
            have HS3_ := (hb.cell (World.block_lt_of_cell? _ _ (hHeld.2.2.2.1))).trans (hHeld.2.2.2.1)
            have HS4_ := (hb.cell (World.block_lt_of_cell? _ _ (hHeld.2.2.2.2.1))).trans (hHeld.2.2.2.2.1)
            have HS5_ := (hb.cell (World.block_lt_of_cell? _ _ (hHeld.2.2.2.2.2.1))).trans (hHeld.2.2.2.2.2.1)
            have HS6_ := (hb.cell (World.block_lt_of_cell? _ _ (hHeld.2.2.2.2.2.2.1))).trans (hHeld.2.2.2.2.2.2.1)
            have HS7_ := (hb.cell (World.block_lt_of_cell? _ _ (hHeld.2.2.2.2.2.2.2.1))).trans (hHeld.2.2.2.2.2.2.2.1)
            have HS8_ := (hb.cell (World.block_lt_of_cell? _ _ (hHeld.2.2.2.2.2.2.2.2.1))).trans (hHeld.2.2.2.2.2.2.2.2.1)
            have HS9_ := (hb.cell (World.block_lt_of_cell? _ _ (hHeld.2.2.2.2.2.2.2.2.2.1))).trans (hHeld.2.2.2.2.2.2.2.2.2.1)
            have HS10_ := (hb.cell (World.block_lt_of_cell? _ _ (hHeld.2.2.2.2.2.2.2.2.2.2.1))).trans (hHeld.2.2.2.2.2.2.2.2.2.2.1)
            have HS11_ := (hb.cell (World.block_lt_of_cell? _ _ (hHeld.2.2.2.2.2.2.2.2.2.2.2.1))).trans (hHeld.2.2.2.2.2.2.2.2.2.2.2.1)
            have HS12_ := (hb.cell (World.block_lt_of_cell? _ _ (hHeld.2.2.2.2.2.2.2.2.2.2.2.2.1))).trans (hHeld.2.2.2.2.2.2.2.2.2.2.2.2.1)
            have HS13_ := (hb.cell (World.block_lt_of_cell? _ _ (hHeld.2.2.2.2.2.2.2.2.2.2.2.2.2.1))).trans (hHeld.2.2.2.2.2.2.2.2.2.2.2.2.2.1)
            have HS14_ := (hb.cell (World.block_lt_of_cell? _ _ (hHeld.2.2.2.2.2.2.2.2.2.2.2.2.2.2.1))).trans (hHeld.2.2.2.2.2.2.2.2.2.2.2.2.2.2.1)
            have HS15_ := (hb.cell (World.block_lt_of_cell? _ _ (hHeld.2.2.2.2.2.2.2.2.2.2.2.2.2.2.2.1))).trans (hHeld.2.2.2.2.2.2.2.2.2.2.2.2.2.2.2.1)
            have HS16_ := (hb.cell (World.block_lt_of_cell? _ _ (hHeld.2.2.2.2.2.2.2.2.2.2.2.2.2.2.2.2.1))).trans (hHeld.2.2.2.2.2.2.2.2.2.2.2.2.2.2.2.2.1)
            have HS17_ := (hb.cell (World.block_lt_of_cell? _ _ (hHeld.2.2.2.2.2.2.2.2.2.2.2.2.2.2.2.2.2.1))).trans (hHeld.2.2.2.2.2.2.2.2.2.2.2.2.2.2.2.2.2.1)
            have HS18_ := (hb.cell (World.block_lt_of_cell? _ _ (hHeld.2.2.2.2.2.2.2.2.2.2.2.2.2.2.2.2.2.2.1))).trans (hHeld.2.2.2.2.2.2.2.2.2.2.2.2.2.2.2.2.2.2.1)
            have HS19_ := (hb.cell (World.block_lt_of_cell? _ _ (hHeld.2.2.2.2.2.2.2.2.2.2.2.2.2.2.2.2.2.2.2.1))).trans (hHeld.2.2.2.2.2.2.2.2.2.2.2.2.2.2.2.2.2.2.2.1)
            have HS20_ := (hb.cell (World.block_lt_of_cell? _ _ (hHeld.2.2.2.2.2.2.2.2.2.2.2.2.2.2.2.2.2.2.2.2.1))).trans (hHeld.2.2.2.2.2.2.2.2.2.2.2.2.2.2.2.2.2.2.2.2.1)
            have HS21_ := (hb.cell (World.block_lt_of_cell? _ _ (hHeld.2.2.2.2.2.2.2.2.2.2.2.2.2.2.2.2.2.2.2.2.2.1))).trans (hHeld.2.2.2.2.2.2.2.2.2.2.2.2.2.2.2.2.2.2.2.2.2.1)
            have HS22_ := (hb.cell (World.block_lt_of_cell? _ _ (hHeld.2.2.2.2.2.2.2.2.2.2.2.2.2.2.2.2.2.2.2.2.2.2.1))).trans (hHeld.2.2.2.2.2.2.2.2.2.2.2.2.2.2.2.2.2.2.2.2.2.2.1)
            have HS23_ := (hb.cell (World.block_lt_of_cell? _ _ (hHeld.2.2.2.2.2.2.2.2.2.2.2.2.2.2.2.2.2.2.2.2.2.2.2.1))).trans (hHeld.2.2.2.2.2.2.2.2.2.2.2.2.2.2.2.2.2.2.2.2.2.2.2.1)
            have HS24_ := (hb.cell (World.block_lt_of_cell? _ _ (hHeld.2.2.2.2.2.2.2.2.2.2.2.2.2.2.2.2.2.2.2.2.2.2.2.2.1))).trans (hHeld.2.2.2.2.2.2.2.2.2.2.2.2.2.2.2.2.2.2.2.2.2.2.2.2.1)
            have HS25_ := (hb.cell (World.block_lt_of_cell? _ _ (hHeld.2.2.2.2.2.2.2.2.2.2.2.2.2.2.2.2.2.2.2.2.2.2.2.2.2.1))).trans (hHeld.2.2.2.2.2.2.2.2.2.2.2.2.2.2.2.2.2.2.2.2.2.2.2.2.2.1)
            have HS26_ := (hb.cell (World.block_lt_of_cell? _ _ (hHeld.2.2.2.2.2.2.2.2.2.2.2.2.2.2.2.2.2.2.2.2.2.2.2.2.2.2.1))).trans (hHeld.2.2.2.2.2.2.2.2.2.2.2.2.2.2.2.2.2.2.2.2.2.2.2.2.2.2.1)
            have HS27_ := (hb.cell (World.block_lt_of_cell? _ _ (hHeld.2.2.2.2.2.2.2.2.2.2.2.2.2.2.2.2.2.2.2.2.2.2.2.2.2.2.2))).trans (hHeld.2.2.2.2.2.2.2.2.2.2.2.2.2.2.2.2.2.2.2.2.2.2.2.2.2.2.2)
            refine ⟨_, rfl, ?_⟩
            have n0_ := Aside0.mk (Kd.N_below (Kd.nk HO_7) hb)
            have n1_ := Aside0.mk (Kd.V_below (Kd.vk HL297_13) hb)
            have n2_ := Aside0.mk (Kd.V_below (Kd.vk HL298_13) hb)
            have n3_ := Aside0.mk (blk_below (g := gb287) (bk BK287) hb)
            have n4_ := Aside0.mk (Kd.C_below (by repeat (first | (with_reducible exact HR297_13.out) | (with_reducible refine Kd.C_alloc ?_ _) | (with_reducible refine Kd.C_drewN ?_ _) | (with_reducible refine Kd.C_drew ?_) | exact HR297_13.out)) hb)
            have n5_ := Aside0.mk (Kd.C_below (by repeat (first | (with_reducible exact HR298_13.out) | (with_reducible refine Kd.C_alloc ?_ _) | (with_reducible refine Kd.C_drewN ?_ _) | (with_reducible refine Kd.C_drew ?_) | exact HR298_13.out)) hb)
            have n6_ := Aside0.mk (below_step (gw_ HB) hb)
            clear HO_7
            clear HL297_13
            clear HL298_13
            clear BK287
            clear HR297_13
            clear HR298_13
            clear HB
            have HO_7 := n0_
            have HL297_13 := n1_
            have HL298_13 := n2_
            have BK287 := n3_
            have HR297_13 := n4_
            have HR298_13 := n5_
            have HB := n6_
            clear n0_ n1_ n2_ n3_ n4_ n5_ n6_
            (try clear hb)
            (try clear hb2)
            (try clear hk)
            (try clear hi)
            refine hK.out _ _ ⟨HS0_, HS1_, HS2_, HS3_, HS4_, HS5_, HS6_, HS7_, HS8_, HS9_, HS10_, HS11_, HS12_, HS13_, HS14_, HS15_, HS16_, HS17_, HS18_, HS19_, HS20_, HS21_, HS22_, HS23_, HS24_, HS25_, HS26_, HS27_⟩ (fun hHeld => ?_)
            clear hK K
            refine norm_ (a' := ?_) ?_ ?_
            rotate_left
            ·
             show Act.put _ (some 69) _ = _
             simp only [Act.put, List.setIfInBounds_toArray, List.set_cons_zero, List.set_cons_succ, i64_w, i32_w]
             rfl
            refine pure_ (i := 19) (N := some 70) (v := ?_) (a' := ?_) q13_25 rfl rfl (any_of HT_.out (by kernel_rfl)) (fun _ _ _ h => h) (Or.inl ⟨by rfl, ?_⟩) ?_ ?_
            rotate_left
            ·
             intro w'
             go_simp
             with_reducible rfl
            rotate_left
            ·
             simp only [Act.put, List.setIfInBounds_toArray, List.set_cons_zero, List.set_cons_succ, i64_w, i32_w]
             rfl
            refine pure_ (i := 20) (N := some 71) (v := ?_) (a' := ?_) q13_26 rfl rfl (any_of HT_.out (by kernel_rfl)) (fun _ _ _ h => h) (Or.inl ⟨by rfl, ?_⟩) ?_ ?_
            rotate_left
            ·
             intro w'
             go_simp
             with_reducible rfl
            rotate_left
            ·
             simp only [Act.put, List.setIfInBounds_toArray, List.set_cons_zero, List.set_cons_succ, i64_w, i32_w]
             rfl
            refine pure_ (i := 21) (N := some 72) (v := ?_) (a' := ?_) q13_27 rfl rfl (any_of HT_.out (by kernel_rfl)) (fun _ _ _ h => h) (Or.inl ⟨by rfl, ?_⟩) ?_ ?_
            rotate_left
            ·
             intro w'
             go_simp
             with_reducible rfl
            rotate_left
            ·
             simp only [Act.put, List.setIfInBounds_toArray, List.set_cons_zero, List.set_cons_succ, i64_w, i32_w]
             rfl
            refine done_ (done_of HT_.out (by kernel_rfl)) ?_
            try go_wp2
            go_meet
            case rel => exact ⟨_, (decide (t299 ≤ 0)), (by first | rfl | (simp; done) | (simp [*]; done) | (simp; have e_ : ∀ {x : Option Int} {a b : Int}, Aside0 (x = some a) → Aside0 (x = some b) → (a ≤ 0 ↔ b ≤ 0) := fun h h2 => (by rw [Option.some.inj (h.out.symm.trans h2.out)]); exact e_ (by assumption) (by assumption))), H', ⟨by have := HK1.out; first | omega | exact Nat.le_refl _⟩, ⟨by (with_reducible repeat (first | apply Kd.N_alloc | apply Kd.N_drewN | apply Kd.N_drew)); exact HO_7.out⟩, ⟨by (with_reducible repeat (first | refine blk_drewN ?_ _ | refine blk_drew ?_ | refine blk_alloc ?_ _)); exact BK287.out⟩, ⟨gw_ HB⟩⟩
           ·
            rw [if_neg c38] at H
            exact absurd H (by simp)
          ·
           rw [if_neg c37] at H
           exact absurd H (by simp)
         ·
          rw [if_neg c36] at H
          exact absurd H (by simp)
        ·
         rw [if_neg c35] at H
         exact absurd H (by simp)
      ·
       rw [if_neg c32] at H
       have c32b0 : decide (0 ≤ t295) = false := decide_eq_false c32
       clear c32
       (first | rw [c32b0] | (simp only [i64_w, i32_w]; rw [c32b0]) | skip)
       have H' := Aside0.mk H
       clear H
       try go_wp2
       have n0_ := Aside0.mk (Kd.N_drew HO_7.out)
       have n1_ := Aside0.mk (blk_drew BK287.out)
       have n2_ := Aside0.mk (below_drew1 HB.out)
       clear HO_7
       clear BK287
       clear HB
       have HO_7 := n0_
       have BK287 := n1_
       have HB := n2_
       clear n0_ n1_ n2_
       refine start_ (n := 22) (S := fun w' => True) (ds := []) q13_0 (by kernel_rfl) rfl rfl trivial (fun hHeld => ?_); refine with_tabW colloquyref10_Decide.tab11 colloquyref10_Decide.bits11 (fun HT_ HW_ => ?_)
       generalize w31.drew = w42 at HO_7 BK287 HB hHeld ⊢
       refine pure_ (i := 0) (N := some 51) (v := ?_) (a' := ?_) q13_1 rfl rfl (any_of HT_.out (by kernel_rfl)) (fun _ _ _ h => h) (Or.inl ⟨by rfl, ?_⟩) ?_ ?_
       rotate_left
       ·
        intro w'
        go_simp
        with_reducible rfl
       rotate_left
       ·
        simp only [Act.put, List.setIfInBounds_toArray, List.set_cons_zero, List.set_cons_succ, i64_w, i32_w]
        rfl
       refine pure_ (i := 1) (N := some 52) (v := ?_) (a' := ?_) q13_2 rfl rfl (any_of HT_.out (by kernel_rfl)) (fun _ _ _ h => h) (Or.inl ⟨by rfl, ?_⟩) ?_ ?_
       rotate_left
       ·
        intro w'
        go_simp
        with_reducible rfl
       rotate_left
       ·
        simp only [Act.put, List.setIfInBounds_toArray, List.set_cons_zero, List.set_cons_succ, i64_w, i32_w]
        rfl
       refine pure_ (i := 2) (N := some 53) (v := ?_) (a' := ?_) q13_3 rfl rfl (any_of HT_.out (by kernel_rfl)) (fun _ _ _ h => h) (Or.inl ⟨by rfl, ?_⟩) ?_ ?_
       rotate_left
       ·
        intro w'
        go_simp
        with_reducible rfl
       rotate_left
       ·
        simp only [Act.put, List.setIfInBounds_toArray, List.set_cons_zero, List.set_cons_succ, i64_w, i32_w]
        rfl
       refine pure_ (i := 3) (N := some 54) (v := undef) (a' := ?_) q13_4 rfl rfl (any_of HT_.out (by kernel_rfl)) (fun _ _ _ h => h) (Or.inr ⟨by rfl, rfl⟩) ?_ ?_
       rotate_left
       ·
        simp only [Act.put, List.setIfInBounds_toArray, List.set_cons_zero, List.set_cons_succ, i64_w, i32_w]
        rfl
       refine pure_ (i := 4) (N := some 55) (v := undef) (a' := ?_) q13_5 rfl rfl (any_of HT_.out (by kernel_rfl)) (fun _ _ _ h => h) (Or.inr ⟨by rfl, rfl⟩) ?_ ?_
       rotate_left
       ·
        simp only [Act.put, List.setIfInBounds_toArray, List.set_cons_zero, List.set_cons_succ, i64_w, i32_w]
        rfl
       refine pure_ (i := 5) (N := some 56) (v := undef) (a' := ?_) q13_6 rfl rfl (any_of HT_.out (by kernel_rfl)) (fun _ _ _ h => h) (Or.inr ⟨by rfl, rfl⟩) ?_ ?_
       rotate_left
       ·
        simp only [Act.put, List.setIfInBounds_toArray, List.set_cons_zero, List.set_cons_succ, i64_w, i32_w]
        rfl
       refine pure_ (i := 6) (N := some 57) (v := undef) (a' := ?_) q13_7 rfl rfl (any_of HT_.out (by kernel_rfl)) (fun _ _ _ h => h) (Or.inr ⟨by rfl, rfl⟩) ?_ ?_
       rotate_left
       ·
        simp only [Act.put, List.setIfInBounds_toArray, List.set_cons_zero, List.set_cons_succ, i64_w, i32_w]
        rfl
       refine pure_ (i := 7) (N := some 58) (v := undef) (a' := ?_) q13_8 rfl rfl (any_of HT_.out (by kernel_rfl)) (fun _ _ _ h => h) (Or.inr ⟨by rfl, rfl⟩) ?_ ?_
       rotate_left
       ·
        simp only [Act.put, List.setIfInBounds_toArray, List.set_cons_zero, List.set_cons_succ, i64_w, i32_w]
        rfl
       refine pure_ (i := 8) (N := some 59) (v := undef) (a' := ?_) q13_9 rfl rfl (any_of HT_.out (by kernel_rfl)) (fun _ _ _ h => h) (Or.inr ⟨by rfl, rfl⟩) ?_ ?_
       rotate_left
       ·
        simp only [Act.put, List.setIfInBounds_toArray, List.set_cons_zero, List.set_cons_succ, i64_w, i32_w]
        rfl
       refine pure_ (i := 9) (N := some 60) (v := undef) (a' := ?_) q13_10 rfl rfl (any_of HT_.out (by kernel_rfl)) (fun _ _ _ h => h) (Or.inr ⟨by rfl, rfl⟩) ?_ ?_
       rotate_left
       ·
        simp only [Act.put, List.setIfInBounds_toArray, List.set_cons_zero, List.set_cons_succ, i64_w, i32_w]
        rfl
       refine pure_ (i := 10) (N := some 61) (v := undef) (a' := ?_) q13_11 rfl rfl (any_of HT_.out (by kernel_rfl)) (fun _ _ _ h => h) (Or.inr ⟨by rfl, rfl⟩) ?_ ?_
       rotate_left
       ·
        simp only [Act.put, List.setIfInBounds_toArray, List.set_cons_zero, List.set_cons_succ, i64_w, i32_w]
        rfl
       refine pure_ (i := 11) (N := some 62) (v := undef) (a' := ?_) q13_13 rfl rfl (any_of HT_.out (by kernel_rfl)) (fun _ _ _ h => h) (Or.inr ⟨by rfl, rfl⟩) ?_ ?_
       rotate_left
       ·
        simp only [Act.put, List.setIfInBounds_toArray, List.set_cons_zero, List.set_cons_succ, i64_w, i32_w]
        rfl
       refine pure_ (i := 12) (N := some 63) (v := undef) (a' := ?_) q13_15 rfl rfl (any_of HT_.out (by kernel_rfl)) (fun _ _ _ h => h) (Or.inr ⟨by rfl, rfl⟩) ?_ ?_
       rotate_left
       ·
        simp only [Act.put, List.setIfInBounds_toArray, List.set_cons_zero, List.set_cons_succ, i64_w, i32_w]
        rfl
       refine pure_ (i := 13) (N := some 64) (v := undef) (a' := ?_) q13_17 rfl rfl (any_of HT_.out (by kernel_rfl)) (fun _ _ _ h => h) (Or.inr ⟨by rfl, rfl⟩) ?_ ?_
       rotate_left
       ·
        simp only [Act.put, List.setIfInBounds_toArray, List.set_cons_zero, List.set_cons_succ, i64_w, i32_w]
        rfl
       refine pure_ (i := 14) (N := some 65) (v := undef) (a' := ?_) q13_19 rfl rfl (any_of HT_.out (by kernel_rfl)) (fun _ _ _ h => h) (Or.inr ⟨by rfl, rfl⟩) ?_ ?_
       rotate_left
       ·
        simp only [Act.put, List.setIfInBounds_toArray, List.set_cons_zero, List.set_cons_succ, i64_w, i32_w]
        rfl
       refine pure_ (i := 15) (N := some 66) (v := undef) (a' := ?_) q13_21 rfl rfl (any_of HT_.out (by kernel_rfl)) (fun _ _ _ h => h) (Or.inr ⟨by rfl, rfl⟩) ?_ ?_
       rotate_left
       ·
        simp only [Act.put, List.setIfInBounds_toArray, List.set_cons_zero, List.set_cons_succ, i64_w, i32_w]
        rfl
       refine pure_ (i := 16) (N := some 67) (v := undef) (a' := ?_) q13_22 rfl rfl (any_of HT_.out (by kernel_rfl)) (fun _ _ _ h => h) (Or.inr ⟨by rfl, rfl⟩) ?_ ?_
       rotate_left
       ·
        simp only [Act.put, List.setIfInBounds_toArray, List.set_cons_zero, List.set_cons_succ, i64_w, i32_w]
        rfl
       refine pure_ (i := 17) (N := some 68) (v := undef) (a' := ?_) q13_23 rfl rfl (any_of HT_.out (by kernel_rfl)) (fun _ _ _ h => h) (Or.inr ⟨by rfl, rfl⟩) ?_ ?_
       rotate_left
       ·
        simp only [Act.put, List.setIfInBounds_toArray, List.set_cons_zero, List.set_cons_succ, i64_w, i32_w]
        rfl
       refine pure_ (i := 18) (N := some 69) (v := undef) (a' := ?_) q13_24 rfl rfl (any_of HT_.out (by kernel_rfl)) (fun _ _ _ h => h) (Or.inr ⟨by rfl, rfl⟩) ?_ ?_
       rotate_left
       ·
        simp only [Act.put, List.setIfInBounds_toArray, List.set_cons_zero, List.set_cons_succ, i64_w, i32_w]
        rfl
       refine pure_ (i := 19) (N := some 70) (v := undef) (a' := ?_) q13_25 rfl rfl (any_of HT_.out (by kernel_rfl)) (fun _ _ _ h => h) (Or.inr ⟨by rfl, rfl⟩) ?_ ?_
       rotate_left
       ·
        simp only [Act.put, List.setIfInBounds_toArray, List.set_cons_zero, List.set_cons_succ, i64_w, i32_w]
        rfl
       refine pure_ (i := 20) (N := some 71) (v := undef) (a' := ?_) q13_26 rfl rfl (any_of HT_.out (by kernel_rfl)) (fun _ _ _ h => h) (Or.inr ⟨by rfl, rfl⟩) ?_ ?_
       rotate_left
       ·
        simp only [Act.put, List.setIfInBounds_toArray, List.set_cons_zero, List.set_cons_succ, i64_w, i32_w]
        rfl
       refine pure_ (i := 21) (N := some 72) (v := ?_) (a' := ?_) q13_27 rfl rfl (any_of HT_.out (by kernel_rfl)) (fun _ _ _ h => h) (Or.inl ⟨by rfl, ?_⟩) ?_ ?_
       rotate_left
       ·
        intro w'
        go_simp
        with_reducible rfl
       rotate_left
       ·
        simp only [Act.put, List.setIfInBounds_toArray, List.set_cons_zero, List.set_cons_succ, i64_w, i32_w]
        rfl
       refine done_ (done_of HT_.out (by kernel_rfl)) ?_
       try go_wp2
       go_meet
       case rel => exact ⟨_, (false), (by first | rfl | (simp; done) | (simp [*]; done)), H', ⟨by have := HK1.out; first | omega | exact Nat.le_refl _⟩, ⟨by (with_reducible repeat (first | apply Kd.N_alloc | apply Kd.N_drewN | apply Kd.N_drew)); exact HO_7.out⟩, ⟨by (with_reducible repeat (first | refine blk_drewN ?_ _ | refine blk_drew ?_ | refine blk_alloc ?_ _)); exact BK287.out⟩, ⟨gw_ HB⟩⟩
     case rest =>
      clear HC28
      try clear c2
      try clear p2
      try clear q2
      try clear hx2
      try clear c3
      try clear c29
      try clear p29
      try clear q29
      try clear hx29
      try clear c32
      try clear c32b0
      try clear c33
      try clear c33b0
      try clear c35
      try clear c35b0
      try clear c36
      try clear c36b0
      try clear c37
      try clear c37b0
      try clear c38
      try clear c38b0
      try clear hx297_0
      try clear hx297_1
      try clear hx297_10
      try clear hx297_11
      try clear hx297_12
      try clear hx297_13
      try clear hx297_2
      try clear hx297_3
      try clear hx297_4
      try clear hx297_5
      try clear hx297_6
      try clear hx297_7
      try clear hx297_8
      try clear hx297_9
      try clear hx298_0
      try clear hx298_1
      try clear hx298_10
      try clear hx298_11
      try clear hx298_12
      try clear hx298_13
      try clear hx298_2
      try clear hx298_3
      try clear hx298_4
      try clear hx298_5
      try clear hx298_6
      try clear hx298_7
      try clear hx298_8
      try clear hx298_9
      try clear p297
      try clear p298
      try clear q297
      try clear q298
      obtain ⟨kq, x72_27, rfl, HA, HJ27, HO_7, BK287, HB⟩ := hcut
      cases kq with
      | zero => exact absurd HA.out (by simp [colloquyref10_Decide.j1])
      | succ kj27 =>
       have H := HA.out
       clear HA
       simp only [colloquyref10_Decide.j1] at H
       by_cases c43 : x72_27 = true
       ·
        subst c43
        have H1 : (if 0 ≤ t295 then (if t295 < (t288.length : Int) then (some (2, (rd_T35 t288 t295).f1.f3.f0, (rd_T35 t288 t295).f1.f3.f1, (rd_T35 t288 t295).f1.f3.f2, (rd_T35 t288 t295).f1.f3.f3, (rd_T35 t288 t295).f1.f3.f4, (rd_T35 t288 t295).f1.f3.f5, (rd_T35 t288 t295).f1.f4.f0, (rd_T35 t288 t295).f1.f4.f1)) else (none)) else (none)) = some (r1, r2, r3, r4, r5, r6, r7, r8, r9) := by rw [if_pos rfl] at H; exact H
        clear H
        have H := H1
        clear H1
        by_cases c44 : 0 ≤ t295
        ·
         rw [if_pos c44] at H
         have c44b0 : decide (0 ≤ t295) = true := decide_eq_true c44
         clear c44
         by_cases c45 : t295 < (t288.length : Int)
         ·
          rw [if_pos c45] at H
          have c45b0 : decide (t295 < (t288.length : Int)) = true := decide_eq_true c45
          clear c45
          simp only [Option.some.injEq, Prod.mk.injEq] at H
          obtain ⟨rfl, rfl, rfl, rfl, rfl, rfl, rfl, rfl, rfl⟩ := H
          try go_wp2
          have n0_ := Aside0.mk (Kd.N_drew HO_7.out)
          have n1_ := Aside0.mk (blk_drew BK287.out)
          have n2_ := Aside0.mk (below_drew1 HB.out)
          clear HO_7
          clear BK287
          clear HB
          have HO_7 := n0_
          have BK287 := n1_
          have HB := n2_
          clear n0_ n1_ n2_
          have p300 : 0 ≤ (t295 : Int) := of_decide_eq_true (by first | (with_reducible assumption) | assumption)
          have q300 : t295 < (t288.length : Int) := of_decide_eq_true (by first | (with_reducible assumption) | assumption)
          obtain ⟨ad300, A300_13, c300_13, e300, hx300_0, hx300_1, hx300_2, hx300_3, hx300_4, hx300_5, hx300_6, hx300_7, hx300_8, hx300_9, hx300_10, hx300_11, hx300_12, hx300_13, hl300_13, hi300_13⟩ := at_T35 (Kd.N_reads' HO_7.out).2.2 t295 p300 q300
          cases e300
          obtain ⟨ce300, hce300, hMe300, hcc300⟩ := Kd.N_get HO_7.out z35 t295 p300 (by first | exact q300 | exact of_decide_eq_true (by first | (with_reducible assumption) | assumption) | (have e_ := (Kd.N_reads' HO_7.out).1; omega))
          obtain ⟨ua300_13, uc300_13, rfl, ul300_13, ge300_13⟩ := k35_openF hMe300
          have hv300_13 := hcc300 13 _ rfl
          rw [add_field _ _ 13 (by omega)] at hv300_13
          replace hv300_13 := Option.some.inj (hv300_13.symm.trans hx300_13)
          injection hv300_13 with hva_ hvn_ hvc_
          rw [hva_] at ge300_13
          rw [hvc_] at ul300_13
          have HL300_13 := Aside0.mk (show Kd.V (Kd.int .i64) 3 _ w.heap.size _ _ ((rd_T35 t288 t295).f1.f4.f1) from Kd.V_mk ul300_13 ge300_13)
          clear hva_ hvn_ hvc_ ge300_13 ul300_13
          clear hcc300 hce300
          have HR300_13 := Aside0.mk hi300_13
          have HC300_13 := Aside0.mk hl300_13
          clear hi300_13 hl300_13
          replace p300 := eq_true p300
          replace q300 := eq_true q300
          have p301 : 0 ≤ (t295 : Int) := of_decide_eq_true (by first | (with_reducible assumption) | assumption)
          have q301 : t295 < (t288.length : Int) := of_decide_eq_true (by first | (with_reducible assumption) | assumption)
          obtain ⟨ad301, A301_13, c301_13, e301, hx301_0, hx301_1, hx301_2, hx301_3, hx301_4, hx301_5, hx301_6, hx301_7, hx301_8, hx301_9, hx301_10, hx301_11, hx301_12, hx301_13, hl301_13, hi301_13⟩ := at_T35 (Kd.N_reads' HO_7.out).2.2 t295 p301 q301
          obtain rfl : ad300 = ad301 := (by injection e301)
          obtain ⟨ce301, hce301, hMe301, hcc301⟩ := Kd.N_get HO_7.out z35 t295 p301 (by first | exact q301 | exact of_decide_eq_true (by first | (with_reducible assumption) | assumption) | (have e_ := (Kd.N_reads' HO_7.out).1; omega))
          obtain ⟨ua301_13, uc301_13, rfl, ul301_13, ge301_13⟩ := k35_openF hMe301
          have hv301_13 := hcc301 13 _ rfl
          rw [add_field _ _ 13 (by omega)] at hv301_13
          replace hv301_13 := Option.some.inj (hv301_13.symm.trans hx301_13)
          injection hv301_13 with hva_ hvn_ hvc_
          rw [hva_] at ge301_13
          rw [hvc_] at ul301_13
          have HL301_13 := Aside0.mk (show Kd.V (Kd.int .i64) 3 _ w.heap.size _ _ ((rd_T35 t288 t295).f1.f4.f1) from Kd.V_mk ul301_13 ge301_13)
          clear hva_ hvn_ hvc_ ge301_13 ul301_13
          clear hcc301 hce301
          have HR301_13 := Aside0.mk hi301_13
          have HC301_13 := Aside0.mk hl301_13
          clear hi301_13 hl301_13
          replace p301 := eq_true p301
          replace q301 := eq_true q301
          have ea_ := Option.some.inj (hx300_13.symm.trans hx301_13)
          injection ea_ with ea_ en_ ec_
          subst ea_
          subst ec_
          clear en_
          refine start_ (n := 14) (S := fun w' => w'.cell? (ad300.add ((t295).toNat * 14)) = some (.int .i64 ((rd_T35 t288 t295).f0)) ∧ w'.cell? ⟨(ad300.add ((t295).toNat * 14)).block, (ad300.add ((t295).toNat * 14)).off + 1, none⟩ = some (.int .i64 ((rd_T35 t288 t295).f1.f0)) ∧ w'.cell? ⟨(ad300.add ((t295).toNat * 14)).block, (ad300.add ((t295).toNat * 14)).off + 2, none⟩ = some (.int .i64 ((rd_T35 t288 t295).f1.f1.f0)) ∧ w'.cell? ⟨(ad300.add ((t295).toNat * 14)).block, (ad300.add ((t295).toNat * 14)).off + 3, none⟩ = some (.int .i64 ((rd_T35 t288 t295).f1.f1.f1)) ∧ w'.cell? ⟨(ad300.add ((t295).toNat * 14)).block, (ad300.add ((t295).toNat * 14)).off + 4, none⟩ = some (.int .i64 ((rd_T35 t288 t295).f1.f2.f0)) ∧ w'.cell? ⟨(ad300.add ((t295).toNat * 14)).block, (ad300.add ((t295).toNat * 14)).off + 5, none⟩ = some (.int .i64 ((rd_T35 t288 t295).f1.f2.f1)) ∧ w'.cell? ⟨(ad300.add ((t295).toNat * 14)).block, (ad300.add ((t295).toNat * 14)).off + 6, none⟩ = some (.int .i64 ((rd_T35 t288 t295).f1.f3.f0)) ∧ w'.cell? ⟨(ad300.add ((t295).toNat * 14)).block, (ad300.add ((t295).toNat * 14)).off + 7, none⟩ = some (.int .i64 ((rd_T35 t288 t295).f1.f3.f1)) ∧ w'.cell? ⟨(ad300.add ((t295).toNat * 14)).block, (ad300.add ((t295).toNat * 14)).off + 8, none⟩ = some (.int .i64 ((rd_T35 t288 t295).f1.f3.f2)) ∧ w'.cell? ⟨(ad300.add ((t295).toNat * 14)).block, (ad300.add ((t295).toNat * 14)).off + 9, none⟩ = some (.int .i64 ((rd_T35 t288 t295).f1.f3.f3)) ∧ w'.cell? ⟨(ad300.add ((t295).toNat * 14)).block, (ad300.add ((t295).toNat * 14)).off + 10, none⟩ = some (.int .i64 ((rd_T35 t288 t295).f1.f3.f4)) ∧ w'.cell? ⟨(ad300.add ((t295).toNat * 14)).block, (ad300.add ((t295).toNat * 14)).off + 11, none⟩ = some (.string ((rd_T35 t288 t295).f1.f3.f5)) ∧ w'.cell? ⟨(ad300.add ((t295).toNat * 14)).block, (ad300.add ((t295).toNat * 14)).off + 12, none⟩ = some (.int .i64 ((rd_T35 t288 t295).f1.f4.f0)) ∧ w'.cell? ⟨(ad300.add ((t295).toNat * 14)).block, (ad300.add ((t295).toNat * 14)).off + 13, none⟩ = some (.slice A300_13 ((rd_T35 t288 t295).f1.f4.f1).length c300_13) ∧ w'.cell? (ad300.add ((t295).toNat * 14)) = some (.int .i64 ((rd_T35 t288 t295).f0)) ∧ w'.cell? ⟨(ad300.add ((t295).toNat * 14)).block, (ad300.add ((t295).toNat * 14)).off + 1, none⟩ = some (.int .i64 ((rd_T35 t288 t295).f1.f0)) ∧ w'.cell? ⟨(ad300.add ((t295).toNat * 14)).block, (ad300.add ((t295).toNat * 14)).off + 2, none⟩ = some (.int .i64 ((rd_T35 t288 t295).f1.f1.f0)) ∧ w'.cell? ⟨(ad300.add ((t295).toNat * 14)).block, (ad300.add ((t295).toNat * 14)).off + 3, none⟩ = some (.int .i64 ((rd_T35 t288 t295).f1.f1.f1)) ∧ w'.cell? ⟨(ad300.add ((t295).toNat * 14)).block, (ad300.add ((t295).toNat * 14)).off + 4, none⟩ = some (.int .i64 ((rd_T35 t288 t295).f1.f2.f0)) ∧ w'.cell? ⟨(ad300.add ((t295).toNat * 14)).block, (ad300.add ((t295).toNat * 14)).off + 5, none⟩ = some (.int .i64 ((rd_T35 t288 t295).f1.f2.f1)) ∧ w'.cell? ⟨(ad300.add ((t295).toNat * 14)).block, (ad300.add ((t295).toNat * 14)).off + 6, none⟩ = some (.int .i64 ((rd_T35 t288 t295).f1.f3.f0)) ∧ w'.cell? ⟨(ad300.add ((t295).toNat * 14)).block, (ad300.add ((t295).toNat * 14)).off + 7, none⟩ = some (.int .i64 ((rd_T35 t288 t295).f1.f3.f1)) ∧ w'.cell? ⟨(ad300.add ((t295).toNat * 14)).block, (ad300.add ((t295).toNat * 14)).off + 8, none⟩ = some (.int .i64 ((rd_T35 t288 t295).f1.f3.f2)) ∧ w'.cell? ⟨(ad300.add ((t295).toNat * 14)).block, (ad300.add ((t295).toNat * 14)).off + 9, none⟩ = some (.int .i64 ((rd_T35 t288 t295).f1.f3.f3)) ∧ w'.cell? ⟨(ad300.add ((t295).toNat * 14)).block, (ad300.add ((t295).toNat * 14)).off + 10, none⟩ = some (.int .i64 ((rd_T35 t288 t295).f1.f3.f4)) ∧ w'.cell? ⟨(ad300.add ((t295).toNat * 14)).block, (ad300.add ((t295).toNat * 14)).off + 11, none⟩ = some (.string ((rd_T35 t288 t295).f1.f3.f5)) ∧ w'.cell? ⟨(ad300.add ((t295).toNat * 14)).block, (ad300.add ((t295).toNat * 14)).off + 12, none⟩ = some (.int .i64 ((rd_T35 t288 t295).f1.f4.f0)) ∧ w'.cell? ⟨(ad300.add ((t295).toNat * 14)).block, (ad300.add ((t295).toNat * 14)).off + 13, none⟩ = some (.slice A300_13 ((rd_T35 t288 t295).f1.f4.f1).length c300_13)) (ds := [13]) q13_28 (by kernel_rfl) rfl rfl ⟨hx300_0, hx300_1, hx300_2, hx300_3, hx300_4, hx300_5, hx300_6, hx300_7, hx300_8, hx300_9, hx300_10, hx300_11, hx300_12, hx300_13, hx301_0, hx301_1, hx301_2, hx301_3, hx301_4, hx301_5, hx301_6, hx301_7, hx301_8, hx301_9, hx301_10, hx301_11, hx301_12, hx301_13⟩ (fun hHeld => ?_); refine with_tabW colloquyref10_Decide.tab12 colloquyref10_Decide.bits12 (fun HT_ HW_ => ?_)
          generalize wc.drew = w46 at HO_7 BK287 HB HL300_13 HL301_13 HR300_13 HR301_13 hx300_0 hx300_1 hx300_10 hx300_11 hx300_12 hx300_13 hx300_2 hx300_3 hx300_4 hx300_5 hx300_6 hx300_7 hx300_8 hx300_9 hx301_0 hx301_1 hx301_10 hx301_11 hx301_12 hx301_13 hx301_2 hx301_3 hx301_4 hx301_5 hx301_6 hx301_7 hx301_8 hx301_9 hHeld ⊢
          refine pure_ (i := 0) (N := some 73) (v := ?_) (a' := ?_) q13_29 rfl rfl (any_of HT_.out (by kernel_rfl)) (fun _ _ _ h => h) (Or.inl ⟨by rfl, ?_⟩) ?_ ?_
          rotate_left
          ·
           intro w'
           go_simp
           with_reducible rfl
          rotate_left
          ·
           simp only [Act.put, List.setIfInBounds_toArray, List.set_cons_zero, List.set_cons_succ, i64_w, i32_w]
           rfl
          refine pure_ (i := 1) (N := some 74) (v := ?_) (a' := ?_) q13_30 rfl rfl (any_of HT_.out (by kernel_rfl)) (fun _ _ _ h => h) (Or.inl ⟨by rfl, ?_⟩) ?_ ?_
          rotate_left
          ·
           intro w'
           go_simp
           with_reducible rfl
          rotate_left
          ·
           simp only [Act.put, List.setIfInBounds_toArray, List.set_cons_zero, List.set_cons_succ, i64_w, i32_w]
           rfl
          refine pure_ (i := 2) (N := some 75) (v := ?_) (a' := ?_) q13_31 rfl rfl (any_of HT_.out (by kernel_rfl)) (fun _ _ _ h => h) (Or.inl ⟨by rfl, ?_⟩) ?_ ?_
          rotate_left
          ·
           intro w'
           go_simp
           with_reducible rfl
          rotate_left
          ·
           simp only [Act.put, List.setIfInBounds_toArray, List.set_cons_zero, List.set_cons_succ, i64_w, i32_w]
           rfl
          refine pure_ (i := 3) (N := some 76) (v := ?_) (a' := ?_) q13_32 rfl rfl (any_of HT_.out (by kernel_rfl)) (fun _ _ _ h => h) (Or.inl ⟨by rfl, ?_⟩) ?_ ?_
          rotate_left
          ·
           intro w'
           go_simp
           with_reducible rfl
          rotate_left
          ·
           simp only [Act.put, List.setIfInBounds_toArray, List.set_cons_zero, List.set_cons_succ, i64_w, i32_w]
           rfl
          refine pure_ (i := 4) (N := some 77) (v := ?_) (a' := ?_) q13_33 rfl rfl (any_of HT_.out (by kernel_rfl)) (fun _ _ _ h => h) (Or.inl ⟨by rfl, ?_⟩) ?_ ?_
          rotate_left
          ·
           intro w'
           go_simp
           with_reducible rfl
          rotate_left
          ·
           simp only [Act.put, List.setIfInBounds_toArray, List.set_cons_zero, List.set_cons_succ, i64_w, i32_w]
           rfl
          refine pure_ (i := 6) (N := some 79) (v := ?_) (a' := ?_) q13_34 rfl rfl (any_of HT_.out (by kernel_rfl)) (fun _ _ _ h => h) (Or.inl ⟨by rfl, ?_⟩) ?_ ?_
          rotate_left
          ·
           intro w'
           go_simp
           with_reducible rfl
          rotate_left
          ·
           simp only [Act.put, List.setIfInBounds_toArray, List.set_cons_zero, List.set_cons_succ, i64_w, i32_w]
           rfl
          refine pure_ (i := 7) (N := some 80) (v := ?_) (a' := ?_) q13_35 rfl rfl (any_of HT_.out (by kernel_rfl)) (fun _ _ _ h => h) (Or.inl ⟨by rfl, ?_⟩) ?_ ?_
          rotate_left
          ·
           intro w'
           go_simp
           with_reducible rfl
          rotate_left
          ·
           simp only [Act.put, List.setIfInBounds_toArray, List.set_cons_zero, List.set_cons_succ, i64_w, i32_w]
           rfl
          refine pure_ (i := 8) (N := some 81) (v := ?_) (a' := ?_) q13_36 rfl rfl (any_of HT_.out (by kernel_rfl)) (fun _ _ _ h => h) (Or.inl ⟨by rfl, ?_⟩) ?_ ?_
          rotate_left
          ·
           intro w'
           go_simp
           with_reducible rfl
          rotate_left
          ·
           simp only [Act.put, List.setIfInBounds_toArray, List.set_cons_zero, List.set_cons_succ, i64_w, i32_w]
           rfl
          refine pure_ (i := 9) (N := some 82) (v := ?_) (a' := ?_) q13_37 rfl rfl (any_of HT_.out (by kernel_rfl)) (fun _ _ _ h => h) (Or.inl ⟨by rfl, ?_⟩) ?_ ?_
          rotate_left
          ·
           intro w'
           go_simp
           with_reducible rfl
          rotate_left
          ·
           simp only [Act.put, List.setIfInBounds_toArray, List.set_cons_zero, List.set_cons_succ, i64_w, i32_w]
           rfl
          refine pure_ (i := 10) (N := some 83) (v := ?_) (a' := ?_) q13_38 rfl rfl (any_of HT_.out (by kernel_rfl)) (fun _ _ _ h => h) (Or.inl ⟨by rfl, ?_⟩) ?_ ?_
          rotate_left
          ·
           intro w'
           go_simp
           with_reducible rfl
          rotate_left
          ·
           simp only [Act.put, List.setIfInBounds_toArray, List.set_cons_zero, List.set_cons_succ, i64_w, i32_w]
           rfl
          refine take_ (i := 5) (N := some 78) (v := ?_) (a' := ?_) q13_39 rfl rfl (take_ofW HT_.out HW_.out (by kernel_rfl)) (fun _ _ _ h => h) (Or.inl ⟨by rfl, ?_⟩) hHeld ?_ ?_
          rotate_left
          ·
           rintro w' ⟨s0, s1, s2, s3, s4, s5, s6, s7, s8, s9, s10, s11, s12, s13, s14, s15, s16, s17, s18, s19, s20, s21, s22, s23, s24, s25, s26, s27⟩
           go_simp
           with_reducible rfl
          rotate_left
          ·
           simp only [Act.put, List.setIfInBounds_toArray, List.set_cons_zero, List.set_cons_succ, i64_w, i32_w]
           rfl
          refine take_ (i := 11) (N := some 84) (v := ?_) (a' := ?_) q13_40 rfl rfl (take_ofW HT_.out HW_.out (by kernel_rfl)) (fun _ _ _ h => h) (Or.inl ⟨by rfl, ?_⟩) hHeld ?_ ?_
          rotate_left
          ·
           rintro w' ⟨s0, s1, s2, s3, s4, s5, s6, s7, s8, s9, s10, s11, s12, s13, s14, s15, s16, s17, s18, s19, s20, s21, s22, s23, s24, s25, s26, s27⟩
           go_simp
           with_reducible rfl
          rotate_left
          ·
           simp only [Act.put, List.setIfInBounds_toArray, List.set_cons_zero, List.set_cons_succ, i64_w, i32_w]
           rfl
          refine pure_ (i := 12) (N := some 85) (v := ?_) (a' := ?_) q13_41 rfl rfl (any_of HT_.out (by kernel_rfl)) (fun _ _ _ h => h) (Or.inl ⟨by rfl, ?_⟩) ?_ ?_
          rotate_left
          ·
           intro w'
           go_simp
           with_reducible rfl
          rotate_left
          ·
           simp only [Act.put, List.setIfInBounds_toArray, List.set_cons_zero, List.set_cons_succ, i64_w, i32_w]
           rfl
          refine last_ (i := 13) (N := none) q13_43 rfl rfl (one_of HT_.out (by kernel_rfl)) (by decide) (fun K hK => ?_)
          have hs47 : w46.cell? ⟨gb287, 0, none⟩ = some (.int .i64 x288000_1) := (blk_cell BK287.out 0).trans rfl
          have hfs47 := blk_frozen BK287.out 0
          have hs48 : w46.cell? ⟨gb287, 1, none⟩ = some (.int .i64 x288001_1) := (blk_cell BK287.out 1).trans rfl
          have hfs48 := blk_frozen BK287.out 1
          have hs49 : w46.cell? ⟨gb287, 2, none⟩ = some (.int .i64 x288002_1) := (blk_cell BK287.out 2).trans rfl
          have hfs49 := blk_frozen BK287.out 2
          have hs50 : w46.cell? ⟨gb287, 3, none⟩ = some (.int .i64 x288003_1) := (blk_cell BK287.out 3).trans rfl
          have hfs50 := blk_frozen BK287.out 3
          have hs51 : w46.cell? ⟨gb287, 4, none⟩ = some (.int .i64 x288004_1) := (blk_cell BK287.out 4).trans rfl
          have hfs51 := blk_frozen BK287.out 4
          have hs52 : w46.cell? ⟨gb287, 5, none⟩ = some (.int .i64 x288005_1) := (blk_cell BK287.out 5).trans rfl
          have hfs52 := blk_frozen BK287.out 5
          have hs53 : w46.cell? ⟨gb287, 6, none⟩ = some (.string x288006_1) := (blk_cell BK287.out 6).trans rfl
          have hfs53 := blk_frozen BK287.out 6
          have hs54 : w46.cell? ⟨gb287, 7, none⟩ = some (.int .i64 x288007_1) := (blk_cell BK287.out 7).trans rfl
          have hfs54 := blk_frozen BK287.out 7
          have hs55 : w46.cell? ⟨gb287, 8, none⟩ = some (.slice none 0 0) := (blk_cell BK287.out 8).trans rfl
          have hfs55 := blk_frozen BK287.out 8
          refine skip_ (w1 := ?_) ?shw ?shN ?_ ?_
          case shw => exact rfl
          case shN => exact rfl
          rotate_left
          ·
           go_simp
           rfl
          refine hK.out _ _ ?_
          clear hK K
          refine done_ (done_of HT_.out (by kernel_rfl)) ?_
          try go_wp2
          refine bodyPost_ret (results_cell_row rfl _ _ gb287 37 #[.int .i64 2, .int .i64 ((rd_T35 t288 t295).f1.f3.f0), .int .i64 ((rd_T35 t288 t295).f1.f3.f1), .int .i64 ((rd_T35 t288 t295).f1.f3.f2), .int .i64 ((rd_T35 t288 t295).f1.f3.f3), .int .i64 ((rd_T35 t288 t295).f1.f3.f4), .string ((rd_T35 t288 t295).f1.f3.f5), .int .i64 ((rd_T35 t288 t295).f1.f4.f0), .slice A300_13 ((rd_T35 t288 t295).f1.f4.f1).length c300_13] (0, 0) _ rfl (by (with_reducible repeat (first | refine blk_drewN ?_ _ | refine blk_drew ?_ | refine blk_alloc ?_ _)); refine blk_put9 (cs := #[.int .i64 x288000_1, .int .i64 x288001_1, .int .i64 x288002_1, .int .i64 x288003_1, .int .i64 x288004_1, .int .i64 x288005_1, .string x288006_1, .int .i64 x288007_1, .slice none 0 0]) ?_ rfl; (with_reducible repeat (first | refine blk_drewN ?_ _ | refine blk_drew ?_ | refine blk_alloc ?_ _)); exact BK287.out) Try.underlying37 rfl (by kernel_rfl)) rfl ?_
          exact ⟨_, by first | rfl | (simp [errW_none, errW_some] <;> rfl) | (simp [*, errW_none, errW_some] <;> rfl), by (with_reducible repeat (first | apply Kd.V_alloc | apply Kd.V_drewN | apply Kd.V_drew)); exact Kd.V_mono (Kd.V_far (p := ⟨gb287, 8, none⟩) (Kd.V_far (p := ⟨gb287, 7, none⟩) (Kd.V_far (p := ⟨gb287, 6, none⟩) (Kd.V_far (p := ⟨gb287, 5, none⟩) (Kd.V_far (p := ⟨gb287, 4, none⟩) (Kd.V_far (p := ⟨gb287, 3, none⟩) (Kd.V_far (p := ⟨gb287, 2, none⟩) (Kd.V_far (p := ⟨gb287, 1, none⟩) (Kd.V_far (p := ⟨gb287, 0, none⟩) (Kd.V_mono HL301_13.out (fun k_ hk => (⟨hk, hk.1.2⟩ : _ ∧ k_ ≠ gb287))) (fun _ hk => hk.2) (.int .i64 2)) (fun _ hk => hk.2) (.int .i64 ((rd_T35 t288 t295).f1.f3.f0))) (fun _ hk => hk.2) (.int .i64 ((rd_T35 t288 t295).f1.f3.f1))) (fun _ hk => hk.2) (.int .i64 ((rd_T35 t288 t295).f1.f3.f2))) (fun _ hk => hk.2) (.int .i64 ((rd_T35 t288 t295).f1.f3.f3))) (fun _ hk => hk.2) (.int .i64 ((rd_T35 t288 t295).f1.f3.f4))) (fun _ hk => hk.2) (.string ((rd_T35 t288 t295).f1.f3.f5))) (fun _ hk => hk.2) (.int .i64 ((rd_T35 t288 t295).f1.f4.f0))) (fun _ hk => hk.2) (.slice A300_13 ((rd_T35 t288 t295).f1.f4.f1).length c300_13)) (fun _ hk => hk.1.1.1), gw_ HB⟩
         ·
          rw [if_neg c45] at H
          exact absurd H (by simp)
        ·
         rw [if_neg c44] at H
         exact absurd H (by simp)
       ·
        replace c43 := Bool.eq_false_iff.mpr c43
        subst c43
        have H1 : ((colloquyref10_first.f kj27 a1 t288).bind fun t302 => (if t302 = true then (if 0 < (t288.length : Int) then (some (2, (rd_T35 t288 0).f1.f3.f0, (rd_T35 t288 0).f1.f3.f1, (rd_T35 t288 0).f1.f3.f2, (rd_T35 t288 0).f1.f3.f3, (rd_T35 t288 0).f1.f3.f4, (rd_T35 t288 0).f1.f3.f5, (rd_T35 t288 0).f1.f4.f0, (rd_T35 t288 0).f1.f4.f1)) else (none)) else (if t296 ≥ 0 then (if 0 ≤ t296 then (if t296 < (t288.length : Int) then (some (3, (rd_T35 t288 t296).f1.f3.f0, (rd_T35 t288 t296).f1.f3.f1, (rd_T35 t288 t296).f1.f3.f2, (rd_T35 t288 t296).f1.f3.f3, (rd_T35 t288 t296).f1.f3.f4, (rd_T35 t288 t296).f1.f3.f5, 0, ([] : List Int))) else (none)) else (none)) else (some (4, 0, 0, 0, 0, 0, (⟨#[]⟩ : ByteArray), 0, ([] : List Int)))))) = some (r1, r2, r3, r4, r5, r6, r7, r8, r9) := by rw [if_neg (show ¬ (false = true) by decide)] at H; exact H
        clear H
        have H := H1
        clear H1
        replace H := Option.bind_eq_some_iff.mp H
        obtain ⟨t302, A560, H⟩ := H
        replace H : (if t302 = true then (if 0 < (t288.length : Int) then (some (2, (rd_T35 t288 0).f1.f3.f0, (rd_T35 t288 0).f1.f3.f1, (rd_T35 t288 0).f1.f3.f2, (rd_T35 t288 0).f1.f3.f3, (rd_T35 t288 0).f1.f3.f4, (rd_T35 t288 0).f1.f3.f5, (rd_T35 t288 0).f1.f4.f0, (rd_T35 t288 0).f1.f4.f1)) else (none)) else (if t296 ≥ 0 then (if 0 ≤ t296 then (if t296 < (t288.length : Int) then (some (3, (rd_T35 t288 t296).f1.f3.f0, (rd_T35 t288 t296).f1.f3.f1, (rd_T35 t288 t296).f1.f3.f2, (rd_T35 t288 t296).f1.f3.f3, (rd_T35 t288 t296).f1.f3.f4, (rd_T35 t288 t296).f1.f3.f5, 0, ([] : List Int))) else (none)) else (none)) else (some (4, 0, 0, 0, 0, 0, (⟨#[]⟩ : ByteArray), 0, ([] : List Int))))) = some (r1, r2, r3, r4, r5, r6, r7, r8, r9) := H
        have A56 := Aside0.mk A560
        clear A560
        by_cases c57 : t302 = true
        ·
         subst c57
         have H1 : (if 0 < (t288.length : Int) then (some (2, (rd_T35 t288 0).f1.f3.f0, (rd_T35 t288 0).f1.f3.f1, (rd_T35 t288 0).f1.f3.f2, (rd_T35 t288 0).f1.f3.f3, (rd_T35 t288 0).f1.f3.f4, (rd_T35 t288 0).f1.f3.f5, (rd_T35 t288 0).f1.f4.f0, (rd_T35 t288 0).f1.f4.f1)) else (none)) = some (r1, r2, r3, r4, r5, r6, r7, r8, r9) := by rw [if_pos rfl] at H; exact H
         clear H
         have H := H1
         clear H1
         by_cases c58 : 0 < (t288.length : Int)
         ·
          rw [if_pos c58] at H
          have c58b0 : decide (0 < (t288.length : Int)) = true := decide_eq_true c58
          have c58b1 : decide (0 < t288.length) = true := decide_eq_true (by omega)
          clear c58
          simp only [Option.some.injEq, Prod.mk.injEq] at H
          obtain ⟨rfl, rfl, rfl, rfl, rfl, rfl, rfl, rfl, rfl⟩ := H
          try go_wp2_with (first | ((with_reducible refine gate_callee (f := 30) rfl ?_); refine goesL_ (some 88) rfl rfl Try.func30 (by kernel_rfl) rfl #[.int .i64 a1, .slice Ao29 t288.length co29] rfl (by (try simp only [List.map_toArray, List.map_cons, List.map_nil]); first | done | rfl | (simp only [List.length_drop, List.length_take]; rfl)) ?_; (with_reducible refine (colloquyref10_first.calls kj27 a1 _ _ t288 true _ ?side1 ?side2 A56.out).mono ?_); (case side1 => repeat (first | exact (Kd.N_reads' HO_7.out).2.2 | (with_reducible refine Kd.C_alloc ?_ _) | (with_reducible refine Kd.C_drewN ?_ _) | (with_reducible refine Kd.C_drew ?_))); (case side2 => exact (Kd.N_reads' HO_7.out).2.1); rintro e w59 ⟨rfl, hb⟩; refine ⟨_, rfl, ?_⟩; have n0_ := Aside0.mk (Kd.N_below (Kd.nk HO_7) hb); have n1_ := Aside0.mk (blk_below (g := gb287) (bk BK287) hb); have n2_ := Aside0.mk (below_step (gw_ HB) hb); clear HO_7; clear BK287; clear HB; have HO_7 := n0_; have BK287 := n1_; have HB := n2_; clear n0_ n1_ n2_; (try clear hb); (try clear hb2); (try clear hk); (try clear hi)))
          have n0_ := Aside0.mk (Kd.N_drew HO_7.out)
          have n1_ := Aside0.mk (blk_drew BK287.out)
          have n2_ := Aside0.mk (below_drew1 HB.out)
          clear HO_7
          clear BK287
          clear HB
          have HO_7 := n0_
          have BK287 := n1_
          have HB := n2_
          clear n0_ n1_ n2_
          have p303 : 0 ≤ (0 : Int) := (by omega)
          have q303 : 0 < (t288.length : Int) := of_decide_eq_true (by first | (with_reducible assumption) | assumption)
          obtain ⟨ad303, A303_13, c303_13, e303, hx303_0, hx303_1, hx303_2, hx303_3, hx303_4, hx303_5, hx303_6, hx303_7, hx303_8, hx303_9, hx303_10, hx303_11, hx303_12, hx303_13, hl303_13, hi303_13⟩ := at_T35 (Kd.N_reads' HO_7.out).2.2 0 p303 q303
          cases e303
          obtain ⟨ce303, hce303, hMe303, hcc303⟩ := Kd.N_get HO_7.out z35 0 p303 (by first | exact q303 | exact of_decide_eq_true (by first | (with_reducible assumption) | assumption) | (have e_ := (Kd.N_reads' HO_7.out).1; omega))
          obtain ⟨ua303_13, uc303_13, rfl, ul303_13, ge303_13⟩ := k35_openF hMe303
          have hv303_13 := hcc303 13 _ rfl
          rw [add_field _ _ 13 (by omega)] at hv303_13
          replace hv303_13 := Option.some.inj (hv303_13.symm.trans hx303_13)
          injection hv303_13 with hva_ hvn_ hvc_
          rw [hva_] at ge303_13
          rw [hvc_] at ul303_13
          have HL303_13 := Aside0.mk (show Kd.V (Kd.int .i64) 3 _ w.heap.size _ _ ((rd_T35 t288 0).f1.f4.f1) from Kd.V_mk ul303_13 ge303_13)
          clear hva_ hvn_ hvc_ ge303_13 ul303_13
          clear hcc303 hce303
          have qi303 : (0 < t288.length) = True := eq_true (by omega)
          (try rw [show ((0 : Int)).toNat = 0 from rfl] at hx303_0)
          (try rw [show 0 * 14 = 0 from rfl] at hx303_0)
          (try rw [Addr.add_zero'] at hx303_0)
          (try rw [show ((0 : Int)).toNat = 0 from rfl] at hx303_1)
          (try rw [show 0 * 14 = 0 from rfl] at hx303_1)
          (try rw [Addr.add_zero'] at hx303_1)
          (try rw [show ((0 : Int)).toNat = 0 from rfl] at hx303_2)
          (try rw [show 0 * 14 = 0 from rfl] at hx303_2)
          (try rw [Addr.add_zero'] at hx303_2)
          (try rw [show ((0 : Int)).toNat = 0 from rfl] at hx303_3)
          (try rw [show 0 * 14 = 0 from rfl] at hx303_3)
          (try rw [Addr.add_zero'] at hx303_3)
          (try rw [show ((0 : Int)).toNat = 0 from rfl] at hx303_4)
          (try rw [show 0 * 14 = 0 from rfl] at hx303_4)
          (try rw [Addr.add_zero'] at hx303_4)
          (try rw [show ((0 : Int)).toNat = 0 from rfl] at hx303_5)
          (try rw [show 0 * 14 = 0 from rfl] at hx303_5)
          (try rw [Addr.add_zero'] at hx303_5)
          (try rw [show ((0 : Int)).toNat = 0 from rfl] at hx303_6)
          (try rw [show 0 * 14 = 0 from rfl] at hx303_6)
          (try rw [Addr.add_zero'] at hx303_6)
          (try rw [show ((0 : Int)).toNat = 0 from rfl] at hx303_7)
          (try rw [show 0 * 14 = 0 from rfl] at hx303_7)
          (try rw [Addr.add_zero'] at hx303_7)
          (try rw [show ((0 : Int)).toNat = 0 from rfl] at hx303_8)
          (try rw [show 0 * 14 = 0 from rfl] at hx303_8)
          (try rw [Addr.add_zero'] at hx303_8)
          (try rw [show ((0 : Int)).toNat = 0 from rfl] at hx303_9)
          (try rw [show 0 * 14 = 0 from rfl] at hx303_9)
          (try rw [Addr.add_zero'] at hx303_9)
          (try rw [show ((0 : Int)).toNat = 0 from rfl] at hx303_10)
          (try rw [show 0 * 14 = 0 from rfl] at hx303_10)
          (try rw [Addr.add_zero'] at hx303_10)
          (try rw [show ((0 : Int)).toNat = 0 from rfl] at hx303_11)
          (try rw [show 0 * 14 = 0 from rfl] at hx303_11)
          (try rw [Addr.add_zero'] at hx303_11)
          (try rw [show ((0 : Int)).toNat = 0 from rfl] at hx303_12)
          (try rw [show 0 * 14 = 0 from rfl] at hx303_12)
          (try rw [Addr.add_zero'] at hx303_12)
          (try rw [show ((0 : Int)).toNat = 0 from rfl] at hx303_13)
          (try rw [show 0 * 14 = 0 from rfl] at hx303_13)
          (try rw [Addr.add_zero'] at hx303_13)
          have HR303_13 := Aside0.mk hi303_13
          have HC303_13 := Aside0.mk hl303_13
          clear hi303_13 hl303_13
          replace p303 := eq_true p303
          replace q303 := eq_true q303
          have p304 : 0 ≤ (0 : Int) := (by omega)
          have q304 : 0 < (t288.length : Int) := of_decide_eq_true (by first | (with_reducible assumption) | assumption)
          obtain ⟨ad304, A304_13, c304_13, e304, hx304_0, hx304_1, hx304_2, hx304_3, hx304_4, hx304_5, hx304_6, hx304_7, hx304_8, hx304_9, hx304_10, hx304_11, hx304_12, hx304_13, hl304_13, hi304_13⟩ := at_T35 (Kd.N_reads' HO_7.out).2.2 0 p304 q304
          obtain rfl : ad303 = ad304 := (by injection e304)
          obtain ⟨ce304, hce304, hMe304, hcc304⟩ := Kd.N_get HO_7.out z35 0 p304 (by first | exact q304 | exact of_decide_eq_true (by first | (with_reducible assumption) | assumption) | (have e_ := (Kd.N_reads' HO_7.out).1; omega))
          obtain ⟨ua304_13, uc304_13, rfl, ul304_13, ge304_13⟩ := k35_openF hMe304
          have hv304_13 := hcc304 13 _ rfl
          rw [add_field _ _ 13 (by omega)] at hv304_13
          replace hv304_13 := Option.some.inj (hv304_13.symm.trans hx304_13)
          injection hv304_13 with hva_ hvn_ hvc_
          rw [hva_] at ge304_13
          rw [hvc_] at ul304_13
          have HL304_13 := Aside0.mk (show Kd.V (Kd.int .i64) 3 _ w.heap.size _ _ ((rd_T35 t288 0).f1.f4.f1) from Kd.V_mk ul304_13 ge304_13)
          clear hva_ hvn_ hvc_ ge304_13 ul304_13
          clear hcc304 hce304
          have qi304 : (0 < t288.length) = True := eq_true (by omega)
          (try rw [show ((0 : Int)).toNat = 0 from rfl] at hx304_0)
          (try rw [show 0 * 14 = 0 from rfl] at hx304_0)
          (try rw [Addr.add_zero'] at hx304_0)
          (try rw [show ((0 : Int)).toNat = 0 from rfl] at hx304_1)
          (try rw [show 0 * 14 = 0 from rfl] at hx304_1)
          (try rw [Addr.add_zero'] at hx304_1)
          (try rw [show ((0 : Int)).toNat = 0 from rfl] at hx304_2)
          (try rw [show 0 * 14 = 0 from rfl] at hx304_2)
          (try rw [Addr.add_zero'] at hx304_2)
          (try rw [show ((0 : Int)).toNat = 0 from rfl] at hx304_3)
          (try rw [show 0 * 14 = 0 from rfl] at hx304_3)
          (try rw [Addr.add_zero'] at hx304_3)
          (try rw [show ((0 : Int)).toNat = 0 from rfl] at hx304_4)
          (try rw [show 0 * 14 = 0 from rfl] at hx304_4)
          (try rw [Addr.add_zero'] at hx304_4)
          (try rw [show ((0 : Int)).toNat = 0 from rfl] at hx304_5)
          (try rw [show 0 * 14 = 0 from rfl] at hx304_5)
          (try rw [Addr.add_zero'] at hx304_5)
          (try rw [show ((0 : Int)).toNat = 0 from rfl] at hx304_6)
          (try rw [show 0 * 14 = 0 from rfl] at hx304_6)
          (try rw [Addr.add_zero'] at hx304_6)
          (try rw [show ((0 : Int)).toNat = 0 from rfl] at hx304_7)
          (try rw [show 0 * 14 = 0 from rfl] at hx304_7)
          (try rw [Addr.add_zero'] at hx304_7)
          (try rw [show ((0 : Int)).toNat = 0 from rfl] at hx304_8)
          (try rw [show 0 * 14 = 0 from rfl] at hx304_8)
          (try rw [Addr.add_zero'] at hx304_8)
          (try rw [show ((0 : Int)).toNat = 0 from rfl] at hx304_9)
          (try rw [show 0 * 14 = 0 from rfl] at hx304_9)
          (try rw [Addr.add_zero'] at hx304_9)
          (try rw [show ((0 : Int)).toNat = 0 from rfl] at hx304_10)
          (try rw [show 0 * 14 = 0 from rfl] at hx304_10)
          (try rw [Addr.add_zero'] at hx304_10)
          (try rw [show ((0 : Int)).toNat = 0 from rfl] at hx304_11)
          (try rw [show 0 * 14 = 0 from rfl] at hx304_11)
          (try rw [Addr.add_zero'] at hx304_11)
          (try rw [show ((0 : Int)).toNat = 0 from rfl] at hx304_12)
          (try rw [show 0 * 14 = 0 from rfl] at hx304_12)
          (try rw [Addr.add_zero'] at hx304_12)
          (try rw [show ((0 : Int)).toNat = 0 from rfl] at hx304_13)
          (try rw [show 0 * 14 = 0 from rfl] at hx304_13)
          (try rw [Addr.add_zero'] at hx304_13)
          have HR304_13 := Aside0.mk hi304_13
          have HC304_13 := Aside0.mk hl304_13
          clear hi304_13 hl304_13
          replace p304 := eq_true p304
          replace q304 := eq_true q304
          have ea_ := Option.some.inj (hx303_13.symm.trans hx304_13)
          injection ea_ with ea_ en_ ec_
          subst ea_
          subst ec_
          clear en_
          refine start_ (n := 12) (S := fun w' => w'.cell? ad303 = some (.int .i64 ((rd_T35 t288 0).f0)) ∧ w'.cell? ⟨ad303.block, ad303.off + 1, none⟩ = some (.int .i64 ((rd_T35 t288 0).f1.f0)) ∧ w'.cell? ⟨ad303.block, ad303.off + 2, none⟩ = some (.int .i64 ((rd_T35 t288 0).f1.f1.f0)) ∧ w'.cell? ⟨ad303.block, ad303.off + 3, none⟩ = some (.int .i64 ((rd_T35 t288 0).f1.f1.f1)) ∧ w'.cell? ⟨ad303.block, ad303.off + 4, none⟩ = some (.int .i64 ((rd_T35 t288 0).f1.f2.f0)) ∧ w'.cell? ⟨ad303.block, ad303.off + 5, none⟩ = some (.int .i64 ((rd_T35 t288 0).f1.f2.f1)) ∧ w'.cell? ⟨ad303.block, ad303.off + 6, none⟩ = some (.int .i64 ((rd_T35 t288 0).f1.f3.f0)) ∧ w'.cell? ⟨ad303.block, ad303.off + 7, none⟩ = some (.int .i64 ((rd_T35 t288 0).f1.f3.f1)) ∧ w'.cell? ⟨ad303.block, ad303.off + 8, none⟩ = some (.int .i64 ((rd_T35 t288 0).f1.f3.f2)) ∧ w'.cell? ⟨ad303.block, ad303.off + 9, none⟩ = some (.int .i64 ((rd_T35 t288 0).f1.f3.f3)) ∧ w'.cell? ⟨ad303.block, ad303.off + 10, none⟩ = some (.int .i64 ((rd_T35 t288 0).f1.f3.f4)) ∧ w'.cell? ⟨ad303.block, ad303.off + 11, none⟩ = some (.string ((rd_T35 t288 0).f1.f3.f5)) ∧ w'.cell? ⟨ad303.block, ad303.off + 12, none⟩ = some (.int .i64 ((rd_T35 t288 0).f1.f4.f0)) ∧ w'.cell? ⟨ad303.block, ad303.off + 13, none⟩ = some (.slice A303_13 ((rd_T35 t288 0).f1.f4.f1).length c303_13) ∧ w'.cell? ad303 = some (.int .i64 ((rd_T35 t288 0).f0)) ∧ w'.cell? ⟨ad303.block, ad303.off + 1, none⟩ = some (.int .i64 ((rd_T35 t288 0).f1.f0)) ∧ w'.cell? ⟨ad303.block, ad303.off + 2, none⟩ = some (.int .i64 ((rd_T35 t288 0).f1.f1.f0)) ∧ w'.cell? ⟨ad303.block, ad303.off + 3, none⟩ = some (.int .i64 ((rd_T35 t288 0).f1.f1.f1)) ∧ w'.cell? ⟨ad303.block, ad303.off + 4, none⟩ = some (.int .i64 ((rd_T35 t288 0).f1.f2.f0)) ∧ w'.cell? ⟨ad303.block, ad303.off + 5, none⟩ = some (.int .i64 ((rd_T35 t288 0).f1.f2.f1)) ∧ w'.cell? ⟨ad303.block, ad303.off + 6, none⟩ = some (.int .i64 ((rd_T35 t288 0).f1.f3.f0)) ∧ w'.cell? ⟨ad303.block, ad303.off + 7, none⟩ = some (.int .i64 ((rd_T35 t288 0).f1.f3.f1)) ∧ w'.cell? ⟨ad303.block, ad303.off + 8, none⟩ = some (.int .i64 ((rd_T35 t288 0).f1.f3.f2)) ∧ w'.cell? ⟨ad303.block, ad303.off + 9, none⟩ = some (.int .i64 ((rd_T35 t288 0).f1.f3.f3)) ∧ w'.cell? ⟨ad303.block, ad303.off + 10, none⟩ = some (.int .i64 ((rd_T35 t288 0).f1.f3.f4)) ∧ w'.cell? ⟨ad303.block, ad303.off + 11, none⟩ = some (.string ((rd_T35 t288 0).f1.f3.f5)) ∧ w'.cell? ⟨ad303.block, ad303.off + 12, none⟩ = some (.int .i64 ((rd_T35 t288 0).f1.f4.f0)) ∧ w'.cell? ⟨ad303.block, ad303.off + 13, none⟩ = some (.slice A303_13 ((rd_T35 t288 0).f1.f4.f1).length c303_13)) (ds := [11]) q13_42 (by kernel_rfl) rfl rfl ⟨hx303_0, hx303_1, hx303_2, hx303_3, hx303_4, hx303_5, hx303_6, hx303_7, hx303_8, hx303_9, hx303_10, hx303_11, hx303_12, hx303_13, hx304_0, hx304_1, hx304_2, hx304_3, hx304_4, hx304_5, hx304_6, hx304_7, hx304_8, hx304_9, hx304_10, hx304_11, hx304_12, hx304_13⟩ (fun hHeld => ?_); refine with_tabW colloquyref10_Decide.tab15 colloquyref10_Decide.bits15 (fun HT_ HW_ => ?_)
          generalize w59.drew = w60 at HO_7 BK287 HB HL303_13 HL304_13 HR303_13 HR304_13 hx303_0 hx303_1 hx303_10 hx303_11 hx303_12 hx303_13 hx303_2 hx303_3 hx303_4 hx303_5 hx303_6 hx303_7 hx303_8 hx303_9 hx304_0 hx304_1 hx304_10 hx304_11 hx304_12 hx304_13 hx304_2 hx304_3 hx304_4 hx304_5 hx304_6 hx304_7 hx304_8 hx304_9 hHeld ⊢
          refine pure_ (i := 0) (N := some 90) (v := ?_) (a' := ?_) q13_44 rfl rfl (any_of HT_.out (by kernel_rfl)) (fun _ _ _ h => h) (Or.inl ⟨by rfl, ?_⟩) ?_ ?_
          rotate_left
          ·
           intro w'
           go_simp
           with_reducible rfl
          rotate_left
          ·
           simp only [Act.put, List.setIfInBounds_toArray, List.set_cons_zero, List.set_cons_succ, i64_w, i32_w]
           rfl
          refine pure_ (i := 1) (N := some 91) (v := ?_) (a' := ?_) q13_45 rfl rfl (any_of HT_.out (by kernel_rfl)) (fun _ _ _ h => h) (Or.inl ⟨by rfl, ?_⟩) ?_ ?_
          rotate_left
          ·
           intro w'
           go_simp
           with_reducible rfl
          rotate_left
          ·
           simp only [Act.put, List.setIfInBounds_toArray, List.set_cons_zero, List.set_cons_succ, i64_w, i32_w]
           rfl
          refine pure_ (i := 2) (N := some 92) (v := ?_) (a' := ?_) q13_46 rfl rfl (any_of HT_.out (by kernel_rfl)) (fun _ _ _ h => h) (Or.inl ⟨by rfl, ?_⟩) ?_ ?_
          rotate_left
          ·
           intro w'
           go_simp
           with_reducible rfl
          rotate_left
          ·
           simp only [Act.put, List.setIfInBounds_toArray, List.set_cons_zero, List.set_cons_succ, i64_w, i32_w]
           rfl
          refine pure_ (i := 3) (N := some 93) (v := ?_) (a' := ?_) q13_47 rfl rfl (any_of HT_.out (by kernel_rfl)) (fun _ _ _ h => h) (Or.inl ⟨by rfl, ?_⟩) ?_ ?_
          rotate_left
          ·
           intro w'
           go_simp
           with_reducible rfl
          rotate_left
          ·
           simp only [Act.put, List.setIfInBounds_toArray, List.set_cons_zero, List.set_cons_succ, i64_w, i32_w]
           rfl
          refine pure_ (i := 5) (N := some 95) (v := ?_) (a' := ?_) q13_48 rfl rfl (any_of HT_.out (by kernel_rfl)) (fun _ _ _ h => h) (Or.inl ⟨by rfl, ?_⟩) ?_ ?_
          rotate_left
          ·
           intro w'
           go_simp
           with_reducible rfl
          rotate_left
          ·
           simp only [Act.put, List.setIfInBounds_toArray, List.set_cons_zero, List.set_cons_succ, i64_w, i32_w]
           rfl
          refine pure_ (i := 6) (N := some 96) (v := ?_) (a' := ?_) q13_49 rfl rfl (any_of HT_.out (by kernel_rfl)) (fun _ _ _ h => h) (Or.inl ⟨by rfl, ?_⟩) ?_ ?_
          rotate_left
          ·
           intro w'
           go_simp
           with_reducible rfl
          rotate_left
          ·
           simp only [Act.put, List.setIfInBounds_toArray, List.set_cons_zero, List.set_cons_succ, i64_w, i32_w]
           rfl
          refine pure_ (i := 7) (N := some 97) (v := ?_) (a' := ?_) q13_50 rfl rfl (any_of HT_.out (by kernel_rfl)) (fun _ _ _ h => h) (Or.inl ⟨by rfl, ?_⟩) ?_ ?_
          rotate_left
          ·
           intro w'
           go_simp
           with_reducible rfl
          rotate_left
          ·
           simp only [Act.put, List.setIfInBounds_toArray, List.set_cons_zero, List.set_cons_succ, i64_w, i32_w]
           rfl
          refine pure_ (i := 8) (N := some 98) (v := ?_) (a' := ?_) q13_51 rfl rfl (any_of HT_.out (by kernel_rfl)) (fun _ _ _ h => h) (Or.inl ⟨by rfl, ?_⟩) ?_ ?_
          rotate_left
          ·
           intro w'
           go_simp
           with_reducible rfl
          rotate_left
          ·
           simp only [Act.put, List.setIfInBounds_toArray, List.set_cons_zero, List.set_cons_succ, i64_w, i32_w]
           rfl
          refine take_ (i := 4) (N := some 94) (v := ?_) (a' := ?_) q13_52 rfl rfl (take_ofW HT_.out HW_.out (by kernel_rfl)) (fun _ _ _ h => h) (Or.inl ⟨by rfl, ?_⟩) hHeld ?_ ?_
          rotate_left
          ·
           rintro w' ⟨s0, s1, s2, s3, s4, s5, s6, s7, s8, s9, s10, s11, s12, s13, s14, s15, s16, s17, s18, s19, s20, s21, s22, s23, s24, s25, s26, s27⟩
           go_simp
           with_reducible rfl
          rotate_left
          ·
           simp only [Act.put, List.setIfInBounds_toArray, List.set_cons_zero, List.set_cons_succ, i64_w, i32_w]
           rfl
          refine take_ (i := 9) (N := some 99) (v := ?_) (a' := ?_) q13_53 rfl rfl (take_ofW HT_.out HW_.out (by kernel_rfl)) (fun _ _ _ h => h) (Or.inl ⟨by rfl, ?_⟩) hHeld ?_ ?_
          rotate_left
          ·
           rintro w' ⟨s0, s1, s2, s3, s4, s5, s6, s7, s8, s9, s10, s11, s12, s13, s14, s15, s16, s17, s18, s19, s20, s21, s22, s23, s24, s25, s26, s27⟩
           go_simp
           with_reducible rfl
          rotate_left
          ·
           simp only [Act.put, List.setIfInBounds_toArray, List.set_cons_zero, List.set_cons_succ, i64_w, i32_w]
           rfl
          refine pure_ (i := 10) (N := some 100) (v := ?_) (a' := ?_) q13_54 rfl rfl (any_of HT_.out (by kernel_rfl)) (fun _ _ _ h => h) (Or.inl ⟨by rfl, ?_⟩) ?_ ?_
          rotate_left
          ·
           intro w'
           go_simp
           with_reducible rfl
          rotate_left
          ·
           simp only [Act.put, List.setIfInBounds_toArray, List.set_cons_zero, List.set_cons_succ, i64_w, i32_w]
           rfl
          refine last_ (i := 11) (N := none) q13_55 rfl rfl (one_of HT_.out (by kernel_rfl)) (by decide) (fun K hK => ?_)
          have hs61 : w60.cell? ⟨gb287, 0, none⟩ = some (.int .i64 x288000_1) := (blk_cell BK287.out 0).trans rfl
          have hfs61 := blk_frozen BK287.out 0
          have hs62 : w60.cell? ⟨gb287, 1, none⟩ = some (.int .i64 x288001_1) := (blk_cell BK287.out 1).trans rfl
          have hfs62 := blk_frozen BK287.out 1
          have hs63 : w60.cell? ⟨gb287, 2, none⟩ = some (.int .i64 x288002_1) := (blk_cell BK287.out 2).trans rfl
          have hfs63 := blk_frozen BK287.out 2
          have hs64 : w60.cell? ⟨gb287, 3, none⟩ = some (.int .i64 x288003_1) := (blk_cell BK287.out 3).trans rfl
          have hfs64 := blk_frozen BK287.out 3
          have hs65 : w60.cell? ⟨gb287, 4, none⟩ = some (.int .i64 x288004_1) := (blk_cell BK287.out 4).trans rfl
          have hfs65 := blk_frozen BK287.out 4
          have hs66 : w60.cell? ⟨gb287, 5, none⟩ = some (.int .i64 x288005_1) := (blk_cell BK287.out 5).trans rfl
          have hfs66 := blk_frozen BK287.out 5
          have hs67 : w60.cell? ⟨gb287, 6, none⟩ = some (.string x288006_1) := (blk_cell BK287.out 6).trans rfl
          have hfs67 := blk_frozen BK287.out 6
          have hs68 : w60.cell? ⟨gb287, 7, none⟩ = some (.int .i64 x288007_1) := (blk_cell BK287.out 7).trans rfl
          have hfs68 := blk_frozen BK287.out 7
          have hs69 : w60.cell? ⟨gb287, 8, none⟩ = some (.slice none 0 0) := (blk_cell BK287.out 8).trans rfl
          have hfs69 := blk_frozen BK287.out 8
          refine skip_ (w1 := ?_) ?shw ?shN ?_ ?_
          case shw => exact rfl
          case shN => exact rfl
          rotate_left
          ·
           go_simp
           rfl
          refine hK.out _ _ ?_
          clear hK K
          refine done_ (done_of HT_.out (by kernel_rfl)) ?_
          try go_wp2
          refine bodyPost_ret (results_cell_row rfl _ _ gb287 37 #[.int .i64 2, .int .i64 ((rd_T35 t288 0).f1.f3.f0), .int .i64 ((rd_T35 t288 0).f1.f3.f1), .int .i64 ((rd_T35 t288 0).f1.f3.f2), .int .i64 ((rd_T35 t288 0).f1.f3.f3), .int .i64 ((rd_T35 t288 0).f1.f3.f4), .string ((rd_T35 t288 0).f1.f3.f5), .int .i64 ((rd_T35 t288 0).f1.f4.f0), .slice A303_13 ((rd_T35 t288 0).f1.f4.f1).length c303_13] (0, 0) _ rfl (by (with_reducible repeat (first | refine blk_drewN ?_ _ | refine blk_drew ?_ | refine blk_alloc ?_ _)); refine blk_put9 (cs := #[.int .i64 x288000_1, .int .i64 x288001_1, .int .i64 x288002_1, .int .i64 x288003_1, .int .i64 x288004_1, .int .i64 x288005_1, .string x288006_1, .int .i64 x288007_1, .slice none 0 0]) ?_ rfl; (with_reducible repeat (first | refine blk_drewN ?_ _ | refine blk_drew ?_ | refine blk_alloc ?_ _)); exact BK287.out) Try.underlying37 rfl (by kernel_rfl)) rfl ?_
          exact ⟨_, by first | rfl | (simp [errW_none, errW_some] <;> rfl) | (simp [*, errW_none, errW_some] <;> rfl), by (with_reducible repeat (first | apply Kd.V_alloc | apply Kd.V_drewN | apply Kd.V_drew)); exact Kd.V_mono (Kd.V_far (p := ⟨gb287, 8, none⟩) (Kd.V_far (p := ⟨gb287, 7, none⟩) (Kd.V_far (p := ⟨gb287, 6, none⟩) (Kd.V_far (p := ⟨gb287, 5, none⟩) (Kd.V_far (p := ⟨gb287, 4, none⟩) (Kd.V_far (p := ⟨gb287, 3, none⟩) (Kd.V_far (p := ⟨gb287, 2, none⟩) (Kd.V_far (p := ⟨gb287, 1, none⟩) (Kd.V_far (p := ⟨gb287, 0, none⟩) (Kd.V_mono HL304_13.out (fun k_ hk => (⟨hk, hk.1.2⟩ : _ ∧ k_ ≠ gb287))) (fun _ hk => hk.2) (.int .i64 2)) (fun _ hk => hk.2) (.int .i64 ((rd_T35 t288 0).f1.f3.f0))) (fun _ hk => hk.2) (.int .i64 ((rd_T35 t288 0).f1.f3.f1))) (fun _ hk => hk.2) (.int .i64 ((rd_T35 t288 0).f1.f3.f2))) (fun _ hk => hk.2) (.int .i64 ((rd_T35 t288 0).f1.f3.f3))) (fun _ hk => hk.2) (.int .i64 ((rd_T35 t288 0).f1.f3.f4))) (fun _ hk => hk.2) (.string ((rd_T35 t288 0).f1.f3.f5))) (fun _ hk => hk.2) (.int .i64 ((rd_T35 t288 0).f1.f4.f0))) (fun _ hk => hk.2) (.slice A303_13 ((rd_T35 t288 0).f1.f4.f1).length c303_13)) (fun _ hk => hk.1.1.1), gw_ HB⟩
         ·
          rw [if_neg c58] at H
          exact absurd H (by simp)
        ·
         replace c57 := Bool.eq_false_iff.mpr c57
         subst c57
         have H1 : (if t296 ≥ 0 then (if 0 ≤ t296 then (if t296 < (t288.length : Int) then (some (3, (rd_T35 t288 t296).f1.f3.f0, (rd_T35 t288 t296).f1.f3.f1, (rd_T35 t288 t296).f1.f3.f2, (rd_T35 t288 t296).f1.f3.f3, (rd_T35 t288 t296).f1.f3.f4, (rd_T35 t288 t296).f1.f3.f5, 0, ([] : List Int))) else (none)) else (none)) else (some (4, 0, 0, 0, 0, 0, (⟨#[]⟩ : ByteArray), 0, ([] : List Int)))) = some (r1, r2, r3, r4, r5, r6, r7, r8, r9) := by rw [if_neg (show ¬ (false = true) by decide)] at H; exact H
         clear H
         have H := H1
         clear H1
         by_cases c70 : t296 ≥ 0
         ·
          rw [if_pos c70] at H
          have c70b0 : decide (0 ≤ t296) = true := decide_eq_true c70
          clear c70
          by_cases c71 : 0 ≤ t296
          ·
           rw [if_pos c71] at H
           have c71b0 : decide (0 ≤ t296) = true := decide_eq_true c71
           clear c71
           by_cases c72 : t296 < (t288.length : Int)
           ·
            rw [if_pos c72] at H
            have c72b0 : decide (t296 < (t288.length : Int)) = true := decide_eq_true c72
            clear c72
            simp only [Option.some.injEq, Prod.mk.injEq] at H
            obtain ⟨rfl, rfl, rfl, rfl, rfl, rfl, rfl, rfl, rfl⟩ := H
            go_wp2_with (first | ((with_reducible refine gate_callee (f := 30) rfl ?_); refine goesL_ (some 88) rfl rfl Try.func30 (by kernel_rfl) rfl #[.int .i64 a1, .slice Ao29 t288.length co29] rfl (by (try simp only [List.map_toArray, List.map_cons, List.map_nil]); first | done | rfl | (simp only [List.length_drop, List.length_take]; rfl)) ?_; (with_reducible refine (colloquyref10_first.calls kj27 a1 _ _ t288 false _ ?side1 ?side2 A56.out).mono ?_); (case side1 => repeat (first | exact (Kd.N_reads' HO_7.out).2.2 | (with_reducible refine Kd.C_alloc ?_ _) | (with_reducible refine Kd.C_drewN ?_ _) | (with_reducible refine Kd.C_drew ?_))); (case side2 => exact (Kd.N_reads' HO_7.out).2.1); rintro e w73 ⟨rfl, hb⟩; refine ⟨_, rfl, ?_⟩; have n0_ := Aside0.mk (Kd.N_below (Kd.nk HO_7) hb); have n1_ := Aside0.mk (blk_below (g := gb287) (bk BK287) hb); have n2_ := Aside0.mk (below_step (gw_ HB) hb); clear HO_7; clear BK287; clear HB; have HO_7 := n0_; have BK287 := n1_; have HB := n2_; clear n0_ n1_ n2_; (try clear hb); (try clear hb2); (try clear hk); (try clear hi); have p305 : 0 ≤ (t296 : Int) := of_decide_eq_true (by first | (with_reducible assumption) | assumption); have q305 : t296 < (t288.length : Int) := of_decide_eq_true (by first | (with_reducible assumption) | assumption); obtain ⟨ad305, A305_13, c305_13, e305, hx305_0, hx305_1, hx305_2, hx305_3, hx305_4, hx305_5, hx305_6, hx305_7, hx305_8, hx305_9, hx305_10, hx305_11, hx305_12, hx305_13, hl305_13, hi305_13⟩ := at_T35 (Kd.N_reads' HO_7.out).2.2 t296 p305 q305; cases e305; obtain ⟨ce305, hce305, hMe305, hcc305⟩ := Kd.N_get HO_7.out z35 t296 p305 (by first | exact q305 | exact of_decide_eq_true (by first | (with_reducible assumption) | assumption) | (have e_ := (Kd.N_reads' HO_7.out).1; omega)); obtain ⟨ua305_13, uc305_13, rfl, ul305_13, ge305_13⟩ := k35_openF hMe305; have hv305_13 := hcc305 13 _ rfl; rw [add_field _ _ 13 (by omega)] at hv305_13; replace hv305_13 := Option.some.inj (hv305_13.symm.trans hx305_13); injection hv305_13 with hva_ hvn_ hvc_; rw [hva_] at ge305_13; rw [hvc_] at ul305_13; have HL305_13 := Aside0.mk (show Kd.V (Kd.int .i64) 3 _ w.heap.size _ _ ((rd_T35 t288 t296).f1.f4.f1) from Kd.V_mk ul305_13 ge305_13); clear hva_ hvn_ hvc_ ge305_13 ul305_13; clear hcc305 hce305; have HR305_13 := Aside0.mk hi305_13; have HC305_13 := Aside0.mk hl305_13; clear hi305_13 hl305_13; replace p305 := eq_true p305; replace q305 := eq_true q305; obtain ⟨hcz74_0, hcz74_1, hcz74_2, hcz74_3, hcz74_4, hcz74_5, hcz74_6, hcz74_7, hcz74_8⟩ := blk_cells9 BK287.out; obtain ⟨hfz74_0, hfz74_1, hfz74_2, hfz74_3, hfz74_4, hfz74_5, hfz74_6, hfz74_7⟩ := blk_frozens8 BK287.out; have hfz74_8 := blk_frozen BK287.out 8))
            refine bodyPost_ret (results_cell_row rfl _ _ gb287 37 #[.int .i64 3, .int .i64 ((rd_T35 t288 t296).f1.f3.f0), .int .i64 ((rd_T35 t288 t296).f1.f3.f1), .int .i64 ((rd_T35 t288 t296).f1.f3.f2), .int .i64 ((rd_T35 t288 t296).f1.f3.f3), .int .i64 ((rd_T35 t288 t296).f1.f3.f4), .string ((rd_T35 t288 t296).f1.f3.f5), .int .i64 0, .slice none 0 0] (0, 0) _ rfl (by (with_reducible repeat (first | refine blk_drewN ?_ _ | refine blk_drew ?_ | refine blk_alloc ?_ _)); refine blk_put9 (cs := #[.int .i64 x288000_1, .int .i64 x288001_1, .int .i64 x288002_1, .int .i64 x288003_1, .int .i64 x288004_1, .int .i64 x288005_1, .string x288006_1, .int .i64 x288007_1, .slice none 0 0]) ?_ rfl; (with_reducible repeat (first | refine blk_drewN ?_ _ | refine blk_drew ?_ | refine blk_alloc ?_ _)); exact BK287.out) Try.underlying37 rfl (by kernel_rfl)) rfl ?_
            exact ⟨_, by first | rfl | (simp [errW_none, errW_some] <;> rfl) | (simp [*, errW_none, errW_some] <;> rfl), Kd.V_nil _ _ _ _ _, gw_ HB⟩
           ·
            rw [if_neg c72] at H
            exact absurd H (by simp)
          ·
           rw [if_neg c71] at H
           exact absurd H (by simp)
         ·
          rw [if_neg c70] at H
          have c70b0 : decide (0 ≤ t296) = false := decide_eq_false c70
          clear c70
          simp only [Option.some.injEq, Prod.mk.injEq] at H
          obtain ⟨rfl, rfl, rfl, rfl, rfl, rfl, rfl, rfl, rfl⟩ := H
          go_wp2_with (first | ((with_reducible refine gate_callee (f := 30) rfl ?_); refine goesL_ (some 88) rfl rfl Try.func30 (by kernel_rfl) rfl #[.int .i64 a1, .slice Ao29 t288.length co29] rfl (by (try simp only [List.map_toArray, List.map_cons, List.map_nil]); first | done | rfl | (simp only [List.length_drop, List.length_take]; rfl)) ?_; (with_reducible refine (colloquyref10_first.calls kj27 a1 _ _ t288 false _ ?side1 ?side2 A56.out).mono ?_); (case side1 => repeat (first | exact (Kd.N_reads' HO_7.out).2.2 | (with_reducible refine Kd.C_alloc ?_ _) | (with_reducible refine Kd.C_drewN ?_ _) | (with_reducible refine Kd.C_drew ?_))); (case side2 => exact (Kd.N_reads' HO_7.out).2.1); rintro e w75 ⟨rfl, hb⟩; refine ⟨_, rfl, ?_⟩; have n0_ := Aside0.mk (Kd.N_below (Kd.nk HO_7) hb); have n1_ := Aside0.mk (blk_below (g := gb287) (bk BK287) hb); have n2_ := Aside0.mk (below_step (gw_ HB) hb); clear HO_7; clear BK287; clear HB; have HO_7 := n0_; have BK287 := n1_; have HB := n2_; clear n0_ n1_ n2_; (try clear hb); (try clear hb2); (try clear hk); (try clear hi); obtain ⟨hcz76_0, hcz76_1, hcz76_2, hcz76_3, hcz76_4, hcz76_5, hcz76_6, hcz76_7, hcz76_8⟩ := blk_cells9 BK287.out; obtain ⟨hfz76_0, hfz76_1, hfz76_2, hfz76_3, hfz76_4, hfz76_5, hfz76_6, hfz76_7⟩ := blk_frozens8 BK287.out; have hfz76_8 := blk_frozen BK287.out 8))
          refine bodyPost_ret (results_cell_row rfl _ _ gb287 37 #[.int .i64 4, .int .i64 0, .int .i64 0, .int .i64 0, .int .i64 0, .int .i64 0, .string (⟨#[]⟩ : ByteArray), .int .i64 0, .slice none 0 0] (0, 0) _ rfl (by (with_reducible repeat (first | refine blk_drewN ?_ _ | refine blk_drew ?_ | refine blk_alloc ?_ _)); refine blk_put9 (cs := #[.int .i64 x288000_1, .int .i64 x288001_1, .int .i64 x288002_1, .int .i64 x288003_1, .int .i64 x288004_1, .int .i64 x288005_1, .string x288006_1, .int .i64 x288007_1, .slice none 0 0]) ?_ rfl; (with_reducible repeat (first | refine blk_drewN ?_ _ | refine blk_drew ?_ | refine blk_alloc ?_ _)); exact BK287.out) Try.underlying37 rfl (by kernel_rfl)) rfl ?_
          exact ⟨_, by first | rfl | (simp [errW_none, errW_some] <;> rfl) | (simp [*, errW_none, errW_some] <;> rfl), Kd.V_nil _ _ _ _ _, gw_ HB⟩

end Go.Proofs.Ytomgiaakhpemaaa.P
