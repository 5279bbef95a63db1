/- Plain Lean functions and their contracts over the translation, written by a program of this session (myprint.py, over the kit's print); no condition but each contract's own. -/
import Derived.Test.YtgenfbpaooeofaaPx0
import Derived.Test.YtgenfbpaooeofaaPx2
import Derived.Test.YtgenfbpaooeofaaPx6
import Derived.Test.YtgenfbpaooeofaaPx7
namespace Go.Proofs.Ytgenfbpaooeofaa.P
open Go.RowKit Go.Proofs.YtgenfbpaooeofaaW.PrintWords Go.Proofs.YtgenfbpaooeofaaW.PrintLast Go.Proofs.YtgenfbpaooeofaaW.PrintMore
attribute [local go_sem] max2_int min2_int max_two min_two max_three min_three max_four min_four   -- for this text's walks alone
set_option linter.unusedVariables false
set_option linter.unusedSimpArgs false

attribute [local go_sem high] eqA26
/-! ### colloquyref08_Of: function 11 -/
mutual
def colloquyref08_Of.l0 : Nat → List (S29) → Int → Int → List Int → Int → Int → Int → Int → Int → Int → ByteArray → Int → Int → Option (Int × List Int)
 | 0, _, _, _, _, _, _, _, _, _, _, _, _, _ => none
 | k + 1, x0, x9, x10, x11, x12, x146000, x146001, x146002, x146003, x146004, x146005, x147000, x147001 => if x12 < (x0.length : Int) then (if 0 ≤ x12 then ((colloquyref08_may.f ((rd_T29 x0 x12).f0.f0) ((rd_T29 x0 x12).f0.f1) x9).bind fun t154 => ((colloquyref05_Interfere.f k x146000 x146001 x146002 x146003 x146004 x146005 ((rd_T29 x0 x12).f1.f0) ((rd_T29 x0 x12).f1.f1) ((rd_T29 x0 x12).f1.f2) ((rd_T29 x0 x12).f1.f3) ((rd_T29 x0 x12).f1.f4) ((rd_T29 x0 x12).f1.f5)).bind fun t155 => (if t154 = true then (if t155 = true then (colloquyref08_Of.j1 k x0 x9 x10 x11 x12 (((rd_T29 x0 x12).f0.f0) == x147000 && (((rd_T29 x0 x12).f0.f1) == x147001)) x146000 x146001 x146002 x146003 x146004 x146005 x147000 x147001 ((rd_T29 x0 x12).f0.f0) ((rd_T29 x0 x12).f0.f1) ((rd_T29 x0 x12).f1.f0) ((rd_T29 x0 x12).f1.f1) ((rd_T29 x0 x12).f1.f2) ((rd_T29 x0 x12).f1.f3) ((rd_T29 x0 x12).f1.f4) ((rd_T29 x0 x12).f1.f5) ((rd_T29 x0 x12).f2)) else (colloquyref08_Of.j1 k x0 x9 x10 x11 x12 true x146000 x146001 x146002 x146003 x146004 x146005 x147000 x147001 ((rd_T29 x0 x12).f0.f0) ((rd_T29 x0 x12).f0.f1) ((rd_T29 x0 x12).f1.f0) ((rd_T29 x0 x12).f1.f1) ((rd_T29 x0 x12).f1.f2) ((rd_T29 x0 x12).f1.f3) ((rd_T29 x0 x12).f1.f4) ((rd_T29 x0 x12).f1.f5) ((rd_T29 x0 x12).f2))) else (colloquyref08_Of.j1 k x0 x9 x10 x11 x12 true x146000 x146001 x146002 x146003 x146004 x146005 x147000 x147001 ((rd_T29 x0 x12).f0.f0) ((rd_T29 x0 x12).f0.f1) ((rd_T29 x0 x12).f1.f0) ((rd_T29 x0 x12).f1.f1) ((rd_T29 x0 x12).f1.f2) ((rd_T29 x0 x12).f1.f3) ((rd_T29 x0 x12).f1.f4) ((rd_T29 x0 x12).f1.f5) ((rd_T29 x0 x12).f2))))) else (none)) else (some (wrap64 (x10 + 1), x11))
def colloquyref08_Of.j1 : Nat → List (S29) → Int → Int → List Int → Int → Bool → Int → Int → Int → Int → Int → ByteArray → Int → Int → Int → Int → Int → Int → Int → Int → Int → ByteArray → Int → Option (Int × List Int)
 | 0, _, _, _, _, _, _, _, _, _, _, _, _, _, _, _, _, _, _, _, _, _, _, _ => none
 | k + 1, x0, x9, x10, x11, x12, x49, x146000, x146001, x146002, x146003, x146004, x146005, x147000, x147001, x154000, x154001, x154002, x154003, x154004, x154005, x154006, x154007, x154008 => if x49 = true then (colloquyref08_Of.l0 k x0 x9 x10 x11 (wrap64 (x12 + 1)) x146000 x146001 x146002 x146003 x146004 x146005 x147000 x147001) else (if x154008 > x10 then (if 0 ≤ (wrap64 (x154000 - 1)) then (if (wrap64 (x154000 - 1)) < (x11.length : Int) then (if x154001 > (rd x11 (wrap64 (x154000 - 1))) then (colloquyref08_Of.l0 k x0 x9 x154008 (x11.set ((wrap64 (x154000 - 1)) : Int).toNat x154001) (wrap64 (x12 + 1)) x146000 x146001 x146002 x146003 x146004 x146005 x147000 x147001) else (colloquyref08_Of.l0 k x0 x9 x154008 x11 (wrap64 (x12 + 1)) x146000 x146001 x146002 x146003 x146004 x146005 x147000 x147001)) else (none)) else (none)) else (if 0 ≤ (wrap64 (x154000 - 1)) then (if (wrap64 (x154000 - 1)) < (x11.length : Int) then (if x154001 > (rd x11 (wrap64 (x154000 - 1))) then (colloquyref08_Of.l0 k x0 x9 x10 (x11.set ((wrap64 (x154000 - 1)) : Int).toNat x154001) (wrap64 (x12 + 1)) x146000 x146001 x146002 x146003 x146004 x146005 x147000 x147001) else (colloquyref08_Of.l0 k x0 x9 x10 x11 (wrap64 (x12 + 1)) x146000 x146001 x146002 x146003 x146004 x146005 x147000 x147001)) else (none)) else (none)))
end
def colloquyref08_Of.f (k : Nat) (l0 : List (S29)) (a1_0 : Int) (a1_1 : Int) (a1_2 : Int) (a1_3 : Int) (a1_4 : Int) (a1_5 : ByteArray) (a2_0 : Int) (a2_1 : Int) (a3 : Int) : Option (Int × List Int) := (colloquyref08_bound.f a3).bind fun t148 => (if 0 ≤ t148 then (if (t148 : Int).toNat ≤ 35184372088832 then (colloquyref08_Of.l0 k l0 t148 0 (List.replicate (t148 : Int).toNat 0) 0 a1_0 a1_1 a1_2 a1_3 a1_4 a1_5 a2_0 a2_1) else (none)) else (none))
theorem colloquyref08_Of.mono_l : ∀ k, (∀ y0 y1 y2 y3 y4 y5 y6 y7 y8 y9 y10 y11 y12, LeO (colloquyref08_Of.l0 k y0 y1 y2 y3 y4 y5 y6 y7 y8 y9 y10 y11 y12) (colloquyref08_Of.l0 (k + 1) y0 y1 y2 y3 y4 y5 y6 y7 y8 y9 y10 y11 y12)) ∧ (∀ y0 y1 y2 y3 y4 y5 y6 y7 y8 y9 y10 y11 y12 y13 y14 y15 y16 y17 y18 y19 y20 y21 y22, LeO (colloquyref08_Of.j1 k y0 y1 y2 y3 y4 y5 y6 y7 y8 y9 y10 y11 y12 y13 y14 y15 y16 y17 y18 y19 y20 y21 y22) (colloquyref08_Of.j1 (k + 1) y0 y1 y2 y3 y4 y5 y6 y7 y8 y9 y10 y11 y12 y13 y14 y15 y16 y17 y18 y19 y20 y21 y22))
 | 0 => ⟨fun _ _ _ _ _ _ _ _ _ _ _ _ _ r h => by simp [colloquyref08_Of.l0] at h, fun _ _ _ _ _ _ _ _ _ _ _ _ _ _ _ _ _ _ _ _ _ _ _ r h => by simp [colloquyref08_Of.j1] at h⟩
 | k + 1 => by
  obtain ⟨ih0, ih1⟩ := colloquyref08_Of.mono_l k
  refine ⟨?_, ?_⟩
  ·
   intro y0 y1 y2 y3 y4 y5 y6 y7 y8 y9 y10 y11 y12
   unfold colloquyref08_Of.l0
   repeat' first
   | (with_reducible exact ih0 _ _ _ _ _ _ _ _ _ _ _ _ _)
   | (with_reducible exact ih1 _ _ _ _ _ _ _ _ _ _ _ _ _ _ _ _ _ _ _ _ _ _ _)
   | (with_reducible exact colloquyref05_Interfere.mono _ _ _ _ _ _ _ _ _ _ _ _ _)
   | (with_reducible exact LeO.refl _)
   | (with_reducible exact LeO.none _)
   | (with_reducible refine LeO.ite ?_ ?_)
   | (with_reducible refine LeO.bind ?_ (fun _ => ?_))
   | exact ih0 _ _ _ _ _ _ _ _ _ _ _ _ _
   | exact ih1 _ _ _ _ _ _ _ _ _ _ _ _ _ _ _ _ _ _ _ _ _ _ _
   | exact colloquyref05_Interfere.mono _ _ _ _ _ _ _ _ _ _ _ _ _
   | exact LeO.none _
   | refine LeO.ite ?_ ?_
   | refine LeO.bind ?_ (fun _ => ?_)
  ·
   intro y0 y1 y2 y3 y4 y5 y6 y7 y8 y9 y10 y11 y12 y13 y14 y15 y16 y17 y18 y19 y20 y21 y22
   unfold colloquyref08_Of.j1
   repeat' first
   | (with_reducible exact ih0 _ _ _ _ _ _ _ _ _ _ _ _ _)
   | (with_reducible exact ih1 _ _ _ _ _ _ _ _ _ _ _ _ _ _ _ _ _ _ _ _ _ _ _)
   | (with_reducible exact colloquyref05_Interfere.mono _ _ _ _ _ _ _ _ _ _ _ _ _)
   | (with_reducible exact LeO.refl _)
   | (with_reducible exact LeO.none _)
   | (with_reducible refine LeO.ite ?_ ?_)
   | (with_reducible refine LeO.bind ?_ (fun _ => ?_))
   | exact ih0 _ _ _ _ _ _ _ _ _ _ _ _ _
   | exact ih1 _ _ _ _ _ _ _ _ _ _ _ _ _ _ _ _ _ _ _ _ _ _ _
   | exact colloquyref05_Interfere.mono _ _ _ _ _ _ _ _ _ _ _ _ _
   | exact LeO.none _
   | refine LeO.ite ?_ ?_
   | refine LeO.bind ?_ (fun _ => ?_)
theorem colloquyref08_Of.mono : ∀ a0 a1 a2 a3 a4 a5 a6 a7 a8 a9 k, LeO (colloquyref08_Of.f k a0 a1 a2 a3 a4 a5 a6 a7 a8 a9) (colloquyref08_Of.f (k + 1) a0 a1 a2 a3 a4 a5 a6 a7 a8 a9) := by
 intro a0 a1 a2 a3 a4 a5 a6 a7 a8 a9 k
 obtain ⟨ih0, ih1⟩ := colloquyref08_Of.mono_l k
 unfold colloquyref08_Of.f
 repeat' first
   | (with_reducible exact ih0 _ _ _ _ _ _ _ _ _ _ _ _ _)
   | (with_reducible exact ih1 _ _ _ _ _ _ _ _ _ _ _ _ _ _ _ _ _ _ _ _ _ _ _)
   | (with_reducible exact colloquyref05_Interfere.mono _ _ _ _ _ _ _ _ _ _ _ _ _)
   | (with_reducible exact LeO.refl _)
   | (with_reducible exact LeO.none _)
   | (with_reducible refine LeO.ite ?_ ?_)
   | (with_reducible refine LeO.bind ?_ (fun _ => ?_))
   | exact ih0 _ _ _ _ _ _ _ _ _ _ _ _ _
   | exact ih1 _ _ _ _ _ _ _ _ _ _ _ _ _ _ _ _ _ _ _ _ _ _ _
   | exact colloquyref05_Interfere.mono _ _ _ _ _ _ _ _ _ _ _ _ _
   | exact LeO.none _
   | refine LeO.ite ?_ ?_
   | refine LeO.bind ?_ (fun _ => ?_)
set_option maxHeartbeats 8000000 in
set_option maxRecDepth 100000 in
theorem colloquyref08_Of.calls (k : Nat) (A0 : Option Addr) (c0 : Nat) (l0 : List (S29)) (a1_0 : Int) (a1_1 : Int) (a1_2 : Int) (a1_3 : Int) (a1_4 : Int) (a1_5 : ByteArray) (a2_0 : Int) (a2_1 : Int) (a3 : Int) (r1 : Int) (r2 : List Int) (w : World) (hr0 : Kd.C k29 w A0 l0.length l0) (hc0 : l0.length ≤ c0) (h : colloquyref08_Of.f k l0 a1_0 a1_1 a1_2 a1_3 a1_4 a1_5 a2_0 a2_1 a3 = some (r1, r2)) :
  Calls Try.prog 11 #[.slice A0 l0.length c0, .agg #[.int .i64 a1_0, .int .i64 a1_1, .int .i64 a1_2, .int .i64 a1_3, .int .i64 a1_4, .string a1_5], .agg #[.int .i64 a2_0, .int .i64 a2_1], .int .i64 a3] w fun e w' => ∃ v1_ : Value, e = .returned (.agg #[.int .i64 r1, v1_]) ∧ Kd.R (Kd.int .i64) 3 w' w.heap.size (fun _ => True) v1_ r2 ∧ Below w.heap.size w w' := by
 have hu24 := Try.underlying24
 have hu26 := Try.underlying26
 have hu32 := Try.underlying32
 have hu29 := Try.underlying29
 have HR0 := Aside0.mk hr0
 have HC0 := Aside0.mk hc0
 clear hr0 hc0
 have HB := Aside0.mk (Below.refl w.heap.size w)
 have H : ((colloquyref08_bound.f a3).bind fun t148 => (if 0 ≤ t148 then (if (t148 : Int).toNat ≤ 35184372088832 then (colloquyref08_Of.l0 k l0 t148 0 (List.replicate (t148 : Int).toNat 0) 0 a1_0 a1_1 a1_2 a1_3 a1_4 a1_5 a2_0 a2_1) else (none)) else (none))) = some (r1, r2) := h
 clear h
 replace H := Option.bind_eq_some_iff.mp H
 obtain ⟨t148, A50, H⟩ := H
 replace H : (if 0 ≤ t148 then (if (t148 : Int).toNat ≤ 35184372088832 then (colloquyref08_Of.l0 k l0 t148 0 (List.replicate (t148 : Int).toNat 0) 0 a1_0 a1_1 a1_2 a1_3 a1_4 a1_5 a2_0 a2_1) else (none)) else (none)) = some (r1, r2) := H
 have A5 := Aside0.mk A50
 clear A50
 by_cases c6 : 0 ≤ t148
 ·
  rw [if_pos c6] at H
  have c6b0 := eq_true c6
  have c6b1 : decide (0 ≤ t148) = true := decide_eq_true c6
  clear c6
  by_cases c7 : (t148 : Int).toNat ≤ 35184372088832
  ·
   rw [if_pos c7] at H
   have c7b0 := eq_true c7
   have c7b1 : decide ((t148 : Int).toNat ≤ 35184372088832) = true := decide_eq_true c7
   clear c7
   obtain ⟨y149, hy149⟩ : ∃ y_ : List Int, y_ = (List.replicate (t148 : Int).toNat 0) := ⟨_, rfl⟩
   replace H : (colloquyref08_Of.l0 k l0 t148 0 y149 0 a1_0 a1_1 a1_2 a1_3 a1_4 a1_5 a2_0 a2_1) = some (r1, r2) := by first | (rw [hy149]; with_reducible exact H) | (have H2_ := (Option.bind_some _ _).symm.trans H; rw [hy149]; with_reducible exact H2_) | (have H2_ := (Option.bind_some _ _).symm.trans H; with_reducible exact H2_) | with_reducible exact H | (rw [hy149]; exact H) | exact H
   have Ny149 := Aside0.mk hy149
   clear hy149
   have H' := Aside0.mk H
   clear H
   go_enter Try.func11, Try.ntmps11
   go_wp2_with (first | ((with_reducible refine gate_dst (N := 5) rfl ?_); refine box_event ?hg (N := 5) ?hd (cs := #[.int .i64 a1_0, .int .i64 a1_1, .int .i64 a1_2, .int .i64 a1_3, .int .i64 a1_4, .string a1_5]) (t := 24) ?hr ?_; (case hd => rfl); (case hg => rfl); (case hr => first | (go_simp; done) | (go_simp; rfl)); intro gb145 hg w8 hbox hb; have s_ := step_size_ (gw_ HB) hb hg; have n0_ := Aside0.mk s_.1; have n1_ := Aside0.mk (hbox); have n2_ := Aside0.mk s_.2; clear s_; have n3_ := n2_; clear HB; have HB := n0_; have BK145 := n1_; have GW145 := n2_; have GE145 := n3_; clear n0_ n1_ n2_ n3_; clear hb hbox hg) | ((with_reducible refine gate_dst (N := 6) rfl ?_); refine box_event ?hg (N := 6) ?hd (cs := #[.int .i64 a2_0, .int .i64 a2_1]) (t := 26) ?hr ?_; (case hd => rfl); (case hg => rfl); (case hr => first | (go_simp; done) | (go_simp; rfl)); intro gb146 hg w9 hbox hb; have n0_ := Aside0.mk (blk_below (g := gb145) (bk BK145) hb); have s_ := step_size_ (gw_ HB) hb hg; have n1_ := Aside0.mk s_.1; have n2_ := Aside0.mk (hbox); have n3_ := Aside0.mk s_.2; clear s_; have n4_ := n3_; have l_ := blk_lt_ (g := gb145) hg (bk BK145); have n5_ := Aside0.mk (Nat.ne_of_lt l_); have n6_ := Aside0.mk (Nat.ne_of_gt l_); clear l_; clear BK145; clear HB; have BK145 := n0_; have HB := n1_; have BK146 := n2_; have GW146 := n3_; have GE146 := n4_; have NB145_146 := n5_; have NB146_145 := n6_; clear n0_ n1_ n2_ n3_ n4_ n5_ n6_; clear hb hbox hg) | ((with_reducible refine gate_dst (N := 8) rfl ?_); refine box_event ?hg (N := 8) ?hd (cs := #[.int .i64 0, .slice none 0 0]) (t := 32) ?hr ?_; (case hd => rfl); (case hg => rfl); (case hr => first | (go_simp; done) | (go_simp; rfl)); intro gb147 hg w10 hbox hb; have n0_ := Aside0.mk (blk_below (g := gb145) (bk BK145) hb); have n1_ := Aside0.mk (blk_below (g := gb146) (bk BK146) hb); have s_ := step_size_ (gw_ HB) hb hg; have n2_ := Aside0.mk s_.1; have n3_ := Aside0.mk (hbox); have n4_ := Aside0.mk s_.2; clear s_; have n5_ := n4_; have l_ := blk_lt_ (g := gb145) hg (bk BK145); have n6_ := Aside0.mk (Nat.ne_of_lt l_); have n7_ := Aside0.mk (Nat.ne_of_gt l_); clear l_; have l_ := blk_lt_ (g := gb146) hg (bk BK146); have n8_ := Aside0.mk (Nat.ne_of_lt l_); have n9_ := Aside0.mk (Nat.ne_of_gt l_); clear l_; clear BK145; clear BK146; clear HB; have BK145 := n0_; have BK146 := n1_; have HB := n2_; have BK147 := n3_; have GW147 := n4_; have GE147 := n5_; have NB145_147 := n6_; have NB147_145 := n7_; have NB146_147 := n8_; have NB147_146 := n9_; clear n0_ n1_ n2_ n3_ n4_ n5_ n6_ n7_ n8_ n9_; clear hb hbox hg) | (go_at_call 22; (with_reducible refine (colloquyref08_bound.calls a3 t148 _ A5.out).mono ?_); rintro e w' ⟨rfl, ⟨nd, rfl⟩⟩; (try first | exact ⟨rfl, _, World.drewN_drewN _ _ _⟩ | exact ⟨rfl, _, Eq.trans (World.drewN_drewN _ _ _) (congrArg (World.drewN _) (Nat.add_assoc _ _ _))⟩)) | ((with_reducible refine gate_dst (N := 19) rfl ?_); refine Kd.R_make (Kd.int .i64) _ 3 rfl (N := 19) rfl 30 _ _ rfl t148 rfl rfl Try.underlying30 (.int .i64 0) 8 info3 rfl (by decide) (by omega) 0 (ok := fun _ => True) (okp := fun _ => True) rfl (fun _ hk => hk) trivial (of_decide_eq_true (by first | (with_reducible assumption) | assumption)) (Nat.le_trans (Nat.mul_le_mul_right _ (of_decide_eq_true (by first | (with_reducible assumption) | assumption) : t148.toNat ≤ 35184372088832)) (by omega)) (Below.refl _ _) (Nat.le_refl _) ?_; intro v150 w11 ho12 hb hg_ hnew_; clear hg_ hnew_; (first | rw [← Ny149.out] at ho12 | (simp only [Int.reduceToNat] at ho12; rw [← Ny149.out] at ho12)); have n0_ := Aside0.mk (Kd.R_lower ho12 (below_size (gw_ HB))); have n1_ := Aside0.mk (blk_below (g := gb145) (bk BK145) hb); have n2_ := Aside0.mk (blk_below (g := gb146) (bk BK146) hb); have n3_ := Aside0.mk (blk_below (g := gb147) (bk BK147) hb); have n4_ := Aside0.mk (below_step (gw_ HB) hb); clear BK145; clear BK146; clear BK147; clear HB; have HO151 := n0_; have BK145 := n1_; have BK146 := n2_; have BK147 := n3_; have HB := n4_; clear n0_ n1_ n2_ n3_ n4_; clear hb ho12))
   repeat (go_quiet (first | ((with_reducible refine gate_dst (N := 5) rfl ?_); refine box_event ?hg (N := 5) ?hd (cs := #[.int .i64 a1_0, .int .i64 a1_1, .int .i64 a1_2, .int .i64 a1_3, .int .i64 a1_4, .string a1_5]) (t := 24) ?hr ?_; (case hd => rfl); (case hg => rfl); (case hr => first | (go_simp; done) | (go_simp; rfl)); intro gb145 hg w8 hbox hb; have s_ := step_size_ (gw_ HB) hb hg; have n0_ := Aside0.mk s_.1; have n1_ := Aside0.mk (hbox); have n2_ := Aside0.mk s_.2; clear s_; have n3_ := n2_; clear HB; have HB := n0_; have BK145 := n1_; have GW145 := n2_; have GE145 := n3_; clear n0_ n1_ n2_ n3_; clear hb hbox hg) | ((with_reducible refine gate_dst (N := 6) rfl ?_); refine box_event ?hg (N := 6) ?hd (cs := #[.int .i64 a2_0, .int .i64 a2_1]) (t := 26) ?hr ?_; (case hd => rfl); (case hg => rfl); (case hr => first | (go_simp; done) | (go_simp; rfl)); intro gb146 hg w9 hbox hb; have n0_ := Aside0.mk (blk_below (g := gb145) (bk BK145) hb); have s_ := step_size_ (gw_ HB) hb hg; have n1_ := Aside0.mk s_.1; have n2_ := Aside0.mk (hbox); have n3_ := Aside0.mk s_.2; clear s_; have n4_ := n3_; have l_ := blk_lt_ (g := gb145) hg (bk BK145); have n5_ := Aside0.mk (Nat.ne_of_lt l_); have n6_ := Aside0.mk (Nat.ne_of_gt l_); clear l_; clear BK145; clear HB; have BK145 := n0_; have HB := n1_; have BK146 := n2_; have GW146 := n3_; have GE146 := n4_; have NB145_146 := n5_; have NB146_145 := n6_; clear n0_ n1_ n2_ n3_ n4_ n5_ n6_; clear hb hbox hg) | ((with_reducible refine gate_dst (N := 8) rfl ?_); refine box_event ?hg (N := 8) ?hd (cs := #[.int .i64 0, .slice none 0 0]) (t := 32) ?hr ?_; (case hd => rfl); (case hg => rfl); (case hr => first | (go_simp; done) | (go_simp; rfl)); intro gb147 hg w10 hbox hb; have n0_ := Aside0.mk (blk_below (g := gb145) (bk BK145) hb); have n1_ := Aside0.mk (blk_below (g := gb146) (bk BK146) hb); have s_ := step_size_ (gw_ HB) hb hg; have n2_ := Aside0.mk s_.1; have n3_ := Aside0.mk (hbox); have n4_ := Aside0.mk s_.2; clear s_; have n5_ := n4_; have l_ := blk_lt_ (g := gb145) hg (bk BK145); have n6_ := Aside0.mk (Nat.ne_of_lt l_); have n7_ := Aside0.mk (Nat.ne_of_gt l_); clear l_; have l_ := blk_lt_ (g := gb146) hg (bk BK146); have n8_ := Aside0.mk (Nat.ne_of_lt l_); have n9_ := Aside0.mk (Nat.ne_of_gt l_); clear l_; clear BK145; clear BK146; clear HB; have BK145 := n0_; have BK146 := n1_; have HB := n2_; have BK147 := n3_; have GW147 := n4_; have GE147 := n5_; have NB145_147 := n6_; have NB147_145 := n7_; have NB146_147 := n8_; have NB147_146 := n9_; clear n0_ n1_ n2_ n3_ n4_ n5_ n6_ n7_ n8_ n9_; clear hb hbox hg) | (go_at_call 22; (with_reducible refine (colloquyref08_bound.calls a3 t148 _ A5.out).mono ?_); rintro e w' ⟨rfl, ⟨nd, rfl⟩⟩; (try first | exact ⟨rfl, _, World.drewN_drewN _ _ _⟩ | exact ⟨rfl, _, Eq.trans (World.drewN_drewN _ _ _) (congrArg (World.drewN _) (Nat.add_assoc _ _ _))⟩)) | ((with_reducible refine gate_dst (N := 19) rfl ?_); refine Kd.R_make (Kd.int .i64) _ 3 rfl (N := 19) rfl 30 _ _ rfl t148 rfl rfl Try.underlying30 (.int .i64 0) 8 info3 rfl (by decide) (by omega) 0 (ok := fun _ => True) (okp := fun _ => True) rfl (fun _ hk => hk) trivial (of_decide_eq_true (by first | (with_reducible assumption) | assumption)) (Nat.le_trans (Nat.mul_le_mul_right _ (of_decide_eq_true (by first | (with_reducible assumption) | assumption) : t148.toNat ≤ 35184372088832)) (by omega)) (Below.refl _ _) (Nat.le_refl _) ?_; intro v150 w11 ho12 hb hg_ hnew_; clear hg_ hnew_; (first | rw [← Ny149.out] at ho12 | (simp only [Int.reduceToNat] at ho12; rw [← Ny149.out] at ho12)); have n0_ := Aside0.mk (Kd.R_lower ho12 (below_size (gw_ HB))); have n1_ := Aside0.mk (blk_below (g := gb145) (bk BK145) hb); have n2_ := Aside0.mk (blk_below (g := gb146) (bk BK146) hb); have n3_ := Aside0.mk (blk_below (g := gb147) (bk BK147) hb); have n4_ := Aside0.mk (below_step (gw_ HB) hb); clear BK145; clear BK146; clear BK147; clear HB; have HO151 := n0_; have BK145 := n1_; have BK146 := n2_; have BK147 := n3_; have HB := n4_; clear n0_ n1_ n2_ n3_ n4_; clear hb ho12)); try go_wp2_with (first | ((with_reducible refine gate_dst (N := 5) rfl ?_); refine box_event ?hg (N := 5) ?hd (cs := #[.int .i64 a1_0, .int .i64 a1_1, .int .i64 a1_2, .int .i64 a1_3, .int .i64 a1_4, .string a1_5]) (t := 24) ?hr ?_; (case hd => rfl); (case hg => rfl); (case hr => first | (go_simp; done) | (go_simp; rfl)); intro gb145 hg w8 hbox hb; have s_ := step_size_ (gw_ HB) hb hg; have n0_ := Aside0.mk s_.1; have n1_ := Aside0.mk (hbox); have n2_ := Aside0.mk s_.2; clear s_; have n3_ := n2_; clear HB; have HB := n0_; have BK145 := n1_; have GW145 := n2_; have GE145 := n3_; clear n0_ n1_ n2_ n3_; clear hb hbox hg) | ((with_reducible refine gate_dst (N := 6) rfl ?_); refine box_event ?hg (N := 6) ?hd (cs := #[.int .i64 a2_0, .int .i64 a2_1]) (t := 26) ?hr ?_; (case hd => rfl); (case hg => rfl); (case hr => first | (go_simp; done) | (go_simp; rfl)); intro gb146 hg w9 hbox hb; have n0_ := Aside0.mk (blk_below (g := gb145) (bk BK145) hb); have s_ := step_size_ (gw_ HB) hb hg; have n1_ := Aside0.mk s_.1; have n2_ := Aside0.mk (hbox); have n3_ := Aside0.mk s_.2; clear s_; have n4_ := n3_; have l_ := blk_lt_ (g := gb145) hg (bk BK145); have n5_ := Aside0.mk (Nat.ne_of_lt l_); have n6_ := Aside0.mk (Nat.ne_of_gt l_); clear l_; clear BK145; clear HB; have BK145 := n0_; have HB := n1_; have BK146 := n2_; have GW146 := n3_; have GE146 := n4_; have NB145_146 := n5_; have NB146_145 := n6_; clear n0_ n1_ n2_ n3_ n4_ n5_ n6_; clear hb hbox hg) | ((with_reducible refine gate_dst (N := 8) rfl ?_); refine box_event ?hg (N := 8) ?hd (cs := #[.int .i64 0, .slice none 0 0]) (t := 32) ?hr ?_; (case hd => rfl); (case hg => rfl); (case hr => first | (go_simp; done) | (go_simp; rfl)); intro gb147 hg w10 hbox hb; have n0_ := Aside0.mk (blk_below (g := gb145) (bk BK145) hb); have n1_ := Aside0.mk (blk_below (g := gb146) (bk BK146) hb); have s_ := step_size_ (gw_ HB) hb hg; have n2_ := Aside0.mk s_.1; have n3_ := Aside0.mk (hbox); have n4_ := Aside0.mk s_.2; clear s_; have n5_ := n4_; have l_ := blk_lt_ (g := gb145) hg (bk BK145); have n6_ := Aside0.mk (Nat.ne_of_lt l_); have n7_ := Aside0.mk (Nat.ne_of_gt l_); clear l_; have l_ := blk_lt_ (g := gb146) hg (bk BK146); have n8_ := Aside0.mk (Nat.ne_of_lt l_); have n9_ := Aside0.mk (Nat.ne_of_gt l_); clear l_; clear BK145; clear BK146; clear HB; have BK145 := n0_; have BK146 := n1_; have HB := n2_; have BK147 := n3_; have GW147 := n4_; have GE147 := n5_; have NB145_147 := n6_; have NB147_145 := n7_; have NB146_147 := n8_; have NB147_146 := n9_; clear n0_ n1_ n2_ n3_ n4_ n5_ n6_ n7_ n8_ n9_; clear hb hbox hg) | (go_at_call 22; (with_reducible refine (colloquyref08_bound.calls a3 t148 _ A5.out).mono ?_); rintro e w' ⟨rfl, ⟨nd, rfl⟩⟩; (try first | exact ⟨rfl, _, World.drewN_drewN _ _ _⟩ | exact ⟨rfl, _, Eq.trans (World.drewN_drewN _ _ _) (congrArg (World.drewN _) (Nat.add_assoc _ _ _))⟩)) | ((with_reducible refine gate_dst (N := 19) rfl ?_); refine Kd.R_make (Kd.int .i64) _ 3 rfl (N := 19) rfl 30 _ _ rfl t148 rfl rfl Try.underlying30 (.int .i64 0) 8 info3 rfl (by decide) (by omega) 0 (ok := fun _ => True) (okp := fun _ => True) rfl (fun _ hk => hk) trivial (of_decide_eq_true (by first | (with_reducible assumption) | assumption)) (Nat.le_trans (Nat.mul_le_mul_right _ (of_decide_eq_true (by first | (with_reducible assumption) | assumption) : t148.toNat ≤ 35184372088832)) (by omega)) (Below.refl _ _) (Nat.le_refl _) ?_; intro v150 w11 ho12 hb hg_ hnew_; clear hg_ hnew_; (first | rw [← Ny149.out] at ho12 | (simp only [Int.reduceToNat] at ho12; rw [← Ny149.out] at ho12)); have n0_ := Aside0.mk (Kd.R_lower ho12 (below_size (gw_ HB))); have n1_ := Aside0.mk (blk_below (g := gb145) (bk BK145) hb); have n2_ := Aside0.mk (blk_below (g := gb146) (bk BK146) hb); have n3_ := Aside0.mk (blk_below (g := gb147) (bk BK147) hb); have n4_ := Aside0.mk (below_step (gw_ HB) hb); clear BK145; clear BK146; clear BK147; clear HB; have HO151 := n0_; have BK145 := n1_; have BK146 := n2_; have BK147 := n3_; have HB := n4_; clear n0_ n1_ n2_ n3_ n4_; clear hb ho12)))
   go_loopg [10, 12] k (fun kq v10 v12 w' => ∃ (x10_1 : Int) (x11_1 : List Int) (x12_1 : Int), v10 = .int .i64 x10_1 ∧ v12 = .int .i64 x12_1 ∧ Aside0 (colloquyref08_Of.l0 kq l0 t148 x10_1 x11_1 x12_1 a1_0 a1_1 a1_2 a1_3 a1_4 a1_5 a2_0 a2_1 = some (r1, r2)) ∧ Aside0 (kq ≤ k) ∧ Aside0 (Kd.R (Kd.int .i64) 3 w' w.heap.size (fun _ => True) v150 x11_1) ∧ Aside0 (w'.heap[gb145]? = some (.cells #[.int .i64 a1_0, .int .i64 a1_1, .int .i64 a1_2, .int .i64 a1_3, .int .i64 a1_4, .string a1_5] 24 (0, 0))) ∧ Aside0 (w'.heap[gb146]? = some (.cells #[.int .i64 a2_0, .int .i64 a2_1] 26 (0, 0))) ∧ Aside0 (w'.heap[gb147]? = some (.cells #[.int .i64 0, (.slice none 0 0)] 32 (0, 0))) ∧ Aside0 (Below w.heap.size w w'))
   case atStart => exact ⟨(0), (y149), (0), (by first | rfl | (simp; done) | (simp [*]; done)), (by first | rfl | (simp; done) | (simp [*]; done)), H', ⟨Nat.le_refl _⟩, ⟨by (with_reducible repeat (first | apply Kd.R_alloc | apply Kd.R_drewN | apply Kd.R_drew)); exact HO151.out⟩, ⟨by (with_reducible repeat (first | refine blk_drewN ?_ _ | refine blk_drew ?_ | refine blk_alloc ?_ _)); exact BK145.out⟩, ⟨by (with_reducible repeat (first | refine blk_drewN ?_ _ | refine blk_drew ?_ | refine blk_alloc ?_ _)); exact BK146.out⟩, ⟨by (with_reducible repeat (first | refine blk_drewN ?_ _ | refine blk_drew ?_ | refine blk_alloc ?_ _)); exact BK147.out⟩, ⟨gw_ HB⟩⟩
   case round =>
    clear H'
    try clear c1
    try clear p2
    try clear c6
    try clear c6b0
    try clear c6b1
    try clear c7
    try clear c7b0
    try clear c7b1
    try clear c11
    obtain ⟨x10_1, x11_1, x12_1, rfl, rfl, HA, HK1, HO_11, BK145, BK146, BK147, HB⟩ := hrel
    cases gk with
    | zero => exact absurd HA.out (by simp [colloquyref08_Of.l0])
    | succ k1 =>
     have H := HA.out
     clear HA
     simp only [colloquyref08_Of.l0] at H
     by_cases c13 : x12_1 < (l0.length : Int)
     ·
      rw [if_pos c13] at H
      have c13b0 : decide (x12_1 < (l0.length : Int)) = true := decide_eq_true c13
      clear c13
      by_cases c14 : 0 ≤ x12_1
      ·
       rw [if_pos c14] at H
       have c14b0 : decide (0 ≤ x12_1) = true := decide_eq_true c14
       clear c14
       replace H := Option.bind_eq_some_iff.mp H
       obtain ⟨t154, A150, H⟩ := H
       replace H : ((colloquyref05_Interfere.f k1 a1_0 a1_1 a1_2 a1_3 a1_4 a1_5 ((rd_T29 l0 x12_1).f1.f0) ((rd_T29 l0 x12_1).f1.f1) ((rd_T29 l0 x12_1).f1.f2) ((rd_T29 l0 x12_1).f1.f3) ((rd_T29 l0 x12_1).f1.f4) ((rd_T29 l0 x12_1).f1.f5)).bind fun t155 => (if t154 = true then (if t155 = true then (colloquyref08_Of.j1 k1 l0 t148 x10_1 x11_1 x12_1 (((rd_T29 l0 x12_1).f0.f0) == a2_0 && (((rd_T29 l0 x12_1).f0.f1) == a2_1)) a1_0 a1_1 a1_2 a1_3 a1_4 a1_5 a2_0 a2_1 ((rd_T29 l0 x12_1).f0.f0) ((rd_T29 l0 x12_1).f0.f1) ((rd_T29 l0 x12_1).f1.f0) ((rd_T29 l0 x12_1).f1.f1) ((rd_T29 l0 x12_1).f1.f2) ((rd_T29 l0 x12_1).f1.f3) ((rd_T29 l0 x12_1).f1.f4) ((rd_T29 l0 x12_1).f1.f5) ((rd_T29 l0 x12_1).f2)) else (colloquyref08_Of.j1 k1 l0 t148 x10_1 x11_1 x12_1 true a1_0 a1_1 a1_2 a1_3 a1_4 a1_5 a2_0 a2_1 ((rd_T29 l0 x12_1).f0.f0) ((rd_T29 l0 x12_1).f0.f1) ((rd_T29 l0 x12_1).f1.f0) ((rd_T29 l0 x12_1).f1.f1) ((rd_T29 l0 x12_1).f1.f2) ((rd_T29 l0 x12_1).f1.f3) ((rd_T29 l0 x12_1).f1.f4) ((rd_T29 l0 x12_1).f1.f5) ((rd_T29 l0 x12_1).f2))) else (colloquyref08_Of.j1 k1 l0 t148 x10_1 x11_1 x12_1 true a1_0 a1_1 a1_2 a1_3 a1_4 a1_5 a2_0 a2_1 ((rd_T29 l0 x12_1).f0.f0) ((rd_T29 l0 x12_1).f0.f1) ((rd_T29 l0 x12_1).f1.f0) ((rd_T29 l0 x12_1).f1.f1) ((rd_T29 l0 x12_1).f1.f2) ((rd_T29 l0 x12_1).f1.f3) ((rd_T29 l0 x12_1).f1.f4) ((rd_T29 l0 x12_1).f1.f5) ((rd_T29 l0 x12_1).f2)))) = some (r1, r2) := H
       have A15 := Aside0.mk A150
       clear A150
       replace H := Option.bind_eq_some_iff.mp H
       obtain ⟨t155, A160, H⟩ := H
       replace H : (if t154 = true then (if t155 = true then (colloquyref08_Of.j1 k1 l0 t148 x10_1 x11_1 x12_1 (((rd_T29 l0 x12_1).f0.f0) == a2_0 && (((rd_T29 l0 x12_1).f0.f1) == a2_1)) a1_0 a1_1 a1_2 a1_3 a1_4 a1_5 a2_0 a2_1 ((rd_T29 l0 x12_1).f0.f0) ((rd_T29 l0 x12_1).f0.f1) ((rd_T29 l0 x12_1).f1.f0) ((rd_T29 l0 x12_1).f1.f1) ((rd_T29 l0 x12_1).f1.f2) ((rd_T29 l0 x12_1).f1.f3) ((rd_T29 l0 x12_1).f1.f4) ((rd_T29 l0 x12_1).f1.f5) ((rd_T29 l0 x12_1).f2)) else (colloquyref08_Of.j1 k1 l0 t148 x10_1 x11_1 x12_1 true a1_0 a1_1 a1_2 a1_3 a1_4 a1_5 a2_0 a2_1 ((rd_T29 l0 x12_1).f0.f0) ((rd_T29 l0 x12_1).f0.f1) ((rd_T29 l0 x12_1).f1.f0) ((rd_T29 l0 x12_1).f1.f1) ((rd_T29 l0 x12_1).f1.f2) ((rd_T29 l0 x12_1).f1.f3) ((rd_T29 l0 x12_1).f1.f4) ((rd_T29 l0 x12_1).f1.f5) ((rd_T29 l0 x12_1).f2))) else (colloquyref08_Of.j1 k1 l0 t148 x10_1 x11_1 x12_1 true a1_0 a1_1 a1_2 a1_3 a1_4 a1_5 a2_0 a2_1 ((rd_T29 l0 x12_1).f0.f0) ((rd_T29 l0 x12_1).f0.f1) ((rd_T29 l0 x12_1).f1.f0) ((rd_T29 l0 x12_1).f1.f1) ((rd_T29 l0 x12_1).f1.f2) ((rd_T29 l0 x12_1).f1.f3) ((rd_T29 l0 x12_1).f1.f4) ((rd_T29 l0 x12_1).f1.f5) ((rd_T29 l0 x12_1).f2))) = some (r1, r2) := H
       have A16 := Aside0.mk A160
       clear A160
       have HC17 := Aside0.mk H
       clear H
       have p152 : 0 ≤ (x12_1 : Int) := of_decide_eq_true (by first | (with_reducible assumption) | assumption)
       have q152 : x12_1 < (l0.length : Int) := of_decide_eq_true (by first | (with_reducible assumption) | assumption)
       obtain ⟨ad152, e152, hx152_0, hx152_1, hx152_2, hx152_3, hx152_4, hx152_5, hx152_6, hx152_7, hx152_8⟩ := at_T29 HR0.out x12_1 p152 q152
       cases e152
       replace hx152_0 := (HB.out.cell (World.block_lt_of_cell? w _ hx152_0)).trans hx152_0
       replace hx152_1 := (HB.out.cell (World.block_lt_of_cell? w _ hx152_1)).trans hx152_1
       replace hx152_2 := (HB.out.cell (World.block_lt_of_cell? w _ hx152_2)).trans hx152_2
       replace hx152_3 := (HB.out.cell (World.block_lt_of_cell? w _ hx152_3)).trans hx152_3
       replace hx152_4 := (HB.out.cell (World.block_lt_of_cell? w _ hx152_4)).trans hx152_4
       replace hx152_5 := (HB.out.cell (World.block_lt_of_cell? w _ hx152_5)).trans hx152_5
       replace hx152_6 := (HB.out.cell (World.block_lt_of_cell? w _ hx152_6)).trans hx152_6
       replace hx152_7 := (HB.out.cell (World.block_lt_of_cell? w _ hx152_7)).trans hx152_7
       replace hx152_8 := (HB.out.cell (World.block_lt_of_cell? w _ hx152_8)).trans hx152_8
       replace p152 := eq_true p152
       replace q152 := eq_true q152
       go_upto_region 10 with (first | ((with_reducible refine gate_dst (N := 13) rfl ?_); refine box_event ?hg (N := 13) ?hd (cs := #[.int .i64 0, .int .i64 0, .int .i64 0, .int .i64 0, .int .i64 0, .int .i64 0, .int .i64 0, .string (⟨#[]⟩ : ByteArray), .int .i64 0]) (t := 29) ?hr ?_; (case hd => rfl); (case hg => rfl); (case hr => first | (go_simp; done) | (go_simp; rfl)); intro gb153 hg w18 hbox hb; have n0_ := Aside0.mk (Kd.R_below (Kd.rk HO_11) hb); have n1_ := Aside0.mk (blk_below (g := gb145) (bk BK145) hb); have n2_ := Aside0.mk (blk_below (g := gb146) (bk BK146) hb); have n3_ := Aside0.mk (blk_below (g := gb147) (bk BK147) hb); have s_ := step_size_ (gw_ HB) hb hg; have n4_ := Aside0.mk s_.1; have n5_ := Aside0.mk (hbox); have n6_ := Aside0.mk s_.2; clear s_; have n7_ := n6_; have l_ := blk_lt_ (g := gb145) hg (bk BK145); have n8_ := Aside0.mk (Nat.ne_of_lt l_); have n9_ := Aside0.mk (Nat.ne_of_gt l_); clear l_; have l_ := blk_lt_ (g := gb146) hg (bk BK146); have n10_ := Aside0.mk (Nat.ne_of_lt l_); have n11_ := Aside0.mk (Nat.ne_of_gt l_); clear l_; have l_ := blk_lt_ (g := gb147) hg (bk BK147); have n12_ := Aside0.mk (Nat.ne_of_lt l_); have n13_ := Aside0.mk (Nat.ne_of_gt l_); clear l_; clear HO_11; clear BK145; clear BK146; clear BK147; clear HB; have HO_11 := n0_; have BK145 := n1_; have BK146 := n2_; have BK147 := n3_; have HB := n4_; have BK153 := n5_; have GW153 := n6_; have GE153 := n7_; have NB145_153 := n8_; have NB153_145 := n9_; have NB146_153 := n10_; have NB153_146 := n11_; have NB147_153 := n12_; have NB153_147 := n13_; clear n0_ n1_ n2_ n3_ n4_ n5_ n6_ n7_ n8_ n9_ n10_ n11_ n12_ n13_; clear hb hbox hg; have hnb19 := NB153_145.out; have hnc19 := NB145_153.out; have hnb20 := NB153_146.out; have hnc20 := NB146_153.out; have hnb21 := NB153_147.out; have hnc21 := NB147_153.out; obtain ⟨hcz22_0, hcz22_1, hcz22_2, hcz22_3, hcz22_4, hcz22_5, hcz22_6, hcz22_7, hcz22_8⟩ := blk_cells9 BK153.out; obtain ⟨hfz22_0, hfz22_1, hfz22_2, hfz22_3, hfz22_4, hfz22_5, hfz22_6, hfz22_7, hfz22_8⟩ := blk_frozens9 BK153.out) | (go_at_call 23; (with_reducible refine (colloquyref08_may.calls ((rd_T29 l0 x12_1).f0.f0) ((rd_T29 l0 x12_1).f0.f1) t148 t154 _ A15.out).mono ?_); rintro e w23 ⟨rfl, hb⟩; have n0_ := Aside0.mk (Kd.R_below (by (with_reducible repeat (first | apply Kd.R_alloc | apply Kd.R_drewN | apply Kd.R_drew)); exact (Kd.R_mono (Kd.R_far9 (g := gb153) (Kd.R_types HO_11.out BK153.out (by decide)) (fun _ hk => hk.2)) (fun _ h_ => h_.1))) hb); have n1_ := Aside0.mk (blk_below (g := gb145) (o := .cells #[.int .i64 a1_0, .int .i64 a1_1, .int .i64 a1_2, .int .i64 a1_3, .int .i64 a1_4, .string a1_5] 24 (0, 0)) (by (with_reducible repeat (first | refine blk_drewN ?_ _ | refine blk_drew ?_ | refine blk_alloc ?_ _)); (iterate 9 (refine blk_far ?_ NB145_153.out _)); (with_reducible repeat (first | refine blk_drewN ?_ _ | refine blk_drew ?_ | refine blk_alloc ?_ _)); exact BK145.out) hb); have n2_ := Aside0.mk (blk_below (g := gb146) (o := .cells #[.int .i64 a2_0, .int .i64 a2_1] 26 (0, 0)) (by (with_reducible repeat (first | refine blk_drewN ?_ _ | refine blk_drew ?_ | refine blk_alloc ?_ _)); (iterate 9 (refine blk_far ?_ NB146_153.out _)); (with_reducible repeat (first | refine blk_drewN ?_ _ | refine blk_drew ?_ | refine blk_alloc ?_ _)); exact BK146.out) hb); have n3_ := Aside0.mk (blk_below (g := gb147) (o := .cells #[.int .i64 0, .slice none 0 0] 32 (0, 0)) (by (with_reducible repeat (first | refine blk_drewN ?_ _ | refine blk_drew ?_ | refine blk_alloc ?_ _)); (iterate 9 (refine blk_far ?_ NB147_153.out _)); (with_reducible repeat (first | refine blk_drewN ?_ _ | refine blk_drew ?_ | refine blk_alloc ?_ _)); exact BK147.out) hb); have n4_ := Aside0.mk (blk_below (g := gb153) (o := .cells #[.int .i64 ((rd_T29 l0 x12_1).f0.f0), .int .i64 ((rd_T29 l0 x12_1).f0.f1), .int .i64 ((rd_T29 l0 x12_1).f1.f0), .int .i64 ((rd_T29 l0 x12_1).f1.f1), .int .i64 ((rd_T29 l0 x12_1).f1.f2), .int .i64 ((rd_T29 l0 x12_1).f1.f3), .int .i64 ((rd_T29 l0 x12_1).f1.f4), .string ((rd_T29 l0 x12_1).f1.f5), .int .i64 ((rd_T29 l0 x12_1).f2)] 29 (0, 0)) (by (with_reducible repeat (first | refine blk_drewN ?_ _ | refine blk_drew ?_ | refine blk_alloc ?_ _)); refine blk_put9 (cs := #[.int .i64 0, .int .i64 0, .int .i64 0, .int .i64 0, .int .i64 0, .int .i64 0, .int .i64 0, .string (⟨#[]⟩ : ByteArray), .int .i64 0]) ?_ rfl; (with_reducible repeat (first | refine blk_drewN ?_ _ | refine blk_drew ?_ | refine blk_alloc ?_ _)); exact BK153.out) hb); have n5_ := Aside0.mk (below_step (gw_ HB) hb); clear HO_11; clear BK145; clear BK146; clear BK147; clear BK153; clear HB; have HO_11 := n0_; have BK145 := n1_; have BK146 := n2_; have BK147 := n3_; have BK153 := n4_; have HB := n5_; clear n0_ n1_ n2_ n3_ n4_ n5_; (try clear hb); (try clear hb2); (try clear hk); (try clear hi); have hnb24 := NB145_146.out; have hnc24 := NB146_145.out; have hnb25 := NB145_147.out; have hnc25 := NB147_145.out; obtain ⟨hcz26_0, hcz26_1, hcz26_2, hcz26_3, hcz26_4, hcz26_5⟩ := blk_cells6 BK145.out; obtain ⟨hfz26_0, hfz26_1, hfz26_2, hfz26_3, hfz26_4, hfz26_5⟩ := blk_frozens6 BK145.out; obtain ⟨hcz27_0, hcz27_1, hcz27_2, hcz27_3, hcz27_4, hcz27_5, hcz27_6, hcz27_7, hcz27_8⟩ := blk_cells9 BK153.out; obtain ⟨hfz27_0, hfz27_1, hfz27_2, hfz27_3, hfz27_4, hfz27_5, hfz27_6, hfz27_7, hfz27_8⟩ := blk_frozens9 BK153.out) | (go_at_call 24; (with_reducible refine (colloquyref05_Interfere.calls k1 a1_0 a1_1 a1_2 a1_3 a1_4 a1_5 ((rd_T29 l0 x12_1).f1.f0) ((rd_T29 l0 x12_1).f1.f1) ((rd_T29 l0 x12_1).f1.f2) ((rd_T29 l0 x12_1).f1.f3) ((rd_T29 l0 x12_1).f1.f4) ((rd_T29 l0 x12_1).f1.f5) t155 _ A16.out).mono ?_); rintro e w28 ⟨rfl, hb⟩; have n0_ := Aside0.mk (Kd.R_below (Kd.rk HO_11) hb); have n1_ := Aside0.mk (blk_below (g := gb145) (bk BK145) hb); have n2_ := Aside0.mk (blk_below (g := gb146) (bk BK146) hb); have n3_ := Aside0.mk (blk_below (g := gb147) (bk BK147) hb); have n4_ := Aside0.mk (blk_below (g := gb153) (bk BK153) hb); have n5_ := Aside0.mk (below_step (gw_ HB) hb); clear HO_11; clear BK145; clear BK146; clear BK147; clear BK153; clear HB; have HO_11 := n0_; have BK145 := n1_; have BK146 := n2_; have BK147 := n3_; have BK153 := n4_; have HB := n5_; clear n0_ n1_ n2_ n3_ n4_ n5_; (try clear hb); (try clear hb2); (try clear hk); (try clear hi)))
       repeat (go_quiet (first | ((with_reducible refine gate_dst (N := 13) rfl ?_); refine box_event ?hg (N := 13) ?hd (cs := #[.int .i64 0, .int .i64 0, .int .i64 0, .int .i64 0, .int .i64 0, .int .i64 0, .int .i64 0, .string (⟨#[]⟩ : ByteArray), .int .i64 0]) (t := 29) ?hr ?_; (case hd => rfl); (case hg => rfl); (case hr => first | (go_simp; done) | (go_simp; rfl)); intro gb153 hg w18 hbox hb; have n0_ := Aside0.mk (Kd.R_below (Kd.rk HO_11) hb); have n1_ := Aside0.mk (blk_below (g := gb145) (bk BK145) hb); have n2_ := Aside0.mk (blk_below (g := gb146) (bk BK146) hb); have n3_ := Aside0.mk (blk_below (g := gb147) (bk BK147) hb); have s_ := step_size_ (gw_ HB) hb hg; have n4_ := Aside0.mk s_.1; have n5_ := Aside0.mk (hbox); have n6_ := Aside0.mk s_.2; clear s_; have n7_ := n6_; have l_ := blk_lt_ (g := gb145) hg (bk BK145); have n8_ := Aside0.mk (Nat.ne_of_lt l_); have n9_ := Aside0.mk (Nat.ne_of_gt l_); clear l_; have l_ := blk_lt_ (g := gb146) hg (bk BK146); have n10_ := Aside0.mk (Nat.ne_of_lt l_); have n11_ := Aside0.mk (Nat.ne_of_gt l_); clear l_; have l_ := blk_lt_ (g := gb147) hg (bk BK147); have n12_ := Aside0.mk (Nat.ne_of_lt l_); have n13_ := Aside0.mk (Nat.ne_of_gt l_); clear l_; clear HO_11; clear BK145; clear BK146; clear BK147; clear HB; have HO_11 := n0_; have BK145 := n1_; have BK146 := n2_; have BK147 := n3_; have HB := n4_; have BK153 := n5_; have GW153 := n6_; have GE153 := n7_; have NB145_153 := n8_; have NB153_145 := n9_; have NB146_153 := n10_; have NB153_146 := n11_; have NB147_153 := n12_; have NB153_147 := n13_; clear n0_ n1_ n2_ n3_ n4_ n5_ n6_ n7_ n8_ n9_ n10_ n11_ n12_ n13_; clear hb hbox hg; have hnb19 := NB153_145.out; have hnc19 := NB145_153.out; have hnb20 := NB153_146.out; have hnc20 := NB146_153.out; have hnb21 := NB153_147.out; have hnc21 := NB147_153.out; obtain ⟨hcz22_0, hcz22_1, hcz22_2, hcz22_3, hcz22_4, hcz22_5, hcz22_6, hcz22_7, hcz22_8⟩ := blk_cells9 BK153.out; obtain ⟨hfz22_0, hfz22_1, hfz22_2, hfz22_3, hfz22_4, hfz22_5, hfz22_6, hfz22_7, hfz22_8⟩ := blk_frozens9 BK153.out) | (go_at_call 23; (with_reducible refine (colloquyref08_may.calls ((rd_T29 l0 x12_1).f0.f0) ((rd_T29 l0 x12_1).f0.f1) t148 t154 _ A15.out).mono ?_); rintro e w23 ⟨rfl, hb⟩; have n0_ := Aside0.mk (Kd.R_below (by (with_reducible repeat (first | apply Kd.R_alloc | apply Kd.R_drewN | apply Kd.R_drew)); exact (Kd.R_mono (Kd.R_far9 (g := gb153) (Kd.R_types HO_11.out BK153.out (by decide)) (fun _ hk => hk.2)) (fun _ h_ => h_.1))) hb); have n1_ := Aside0.mk (blk_below (g := gb145) (o := .cells #[.int .i64 a1_0, .int .i64 a1_1, .int .i64 a1_2, .int .i64 a1_3, .int .i64 a1_4, .string a1_5] 24 (0, 0)) (by (with_reducible repeat (first | refine blk_drewN ?_ _ | refine blk_drew ?_ | refine blk_alloc ?_ _)); (iterate 9 (refine blk_far ?_ NB145_153.out _)); (with_reducible repeat (first | refine blk_drewN ?_ _ | refine blk_drew ?_ | refine blk_alloc ?_ _)); exact BK145.out) hb); have n2_ := Aside0.mk (blk_below (g := gb146) (o := .cells #[.int .i64 a2_0, .int .i64 a2_1] 26 (0, 0)) (by (with_reducible repeat (first | refine blk_drewN ?_ _ | refine blk_drew ?_ | refine blk_alloc ?_ _)); (iterate 9 (refine blk_far ?_ NB146_153.out _)); (with_reducible repeat (first | refine blk_drewN ?_ _ | refine blk_drew ?_ | refine blk_alloc ?_ _)); exact BK146.out) hb); have n3_ := Aside0.mk (blk_below (g := gb147) (o := .cells #[.int .i64 0, .slice none 0 0] 32 (0, 0)) (by (with_reducible repeat (first | refine blk_drewN ?_ _ | refine blk_drew ?_ | refine blk_alloc ?_ _)); (iterate 9 (refine blk_far ?_ NB147_153.out _)); (with_reducible repeat (first | refine blk_drewN ?_ _ | refine blk_drew ?_ | refine blk_alloc ?_ _)); exact BK147.out) hb); have n4_ := Aside0.mk (blk_below (g := gb153) (o := .cells #[.int .i64 ((rd_T29 l0 x12_1).f0.f0), .int .i64 ((rd_T29 l0 x12_1).f0.f1), .int .i64 ((rd_T29 l0 x12_1).f1.f0), .int .i64 ((rd_T29 l0 x12_1).f1.f1), .int .i64 ((rd_T29 l0 x12_1).f1.f2), .int .i64 ((rd_T29 l0 x12_1).f1.f3), .int .i64 ((rd_T29 l0 x12_1).f1.f4), .string ((rd_T29 l0 x12_1).f1.f5), .int .i64 ((rd_T29 l0 x12_1).f2)] 29 (0, 0)) (by (with_reducible repeat (first | refine blk_drewN ?_ _ | refine blk_drew ?_ | refine blk_alloc ?_ _)); refine blk_put9 (cs := #[.int .i64 0, .int .i64 0, .int .i64 0, .int .i64 0, .int .i64 0, .int .i64 0, .int .i64 0, .string (⟨#[]⟩ : ByteArray), .int .i64 0]) ?_ rfl; (with_reducible repeat (first | refine blk_drewN ?_ _ | refine blk_drew ?_ | refine blk_alloc ?_ _)); exact BK153.out) hb); have n5_ := Aside0.mk (below_step (gw_ HB) hb); clear HO_11; clear BK145; clear BK146; clear BK147; clear BK153; clear HB; have HO_11 := n0_; have BK145 := n1_; have BK146 := n2_; have BK147 := n3_; have BK153 := n4_; have HB := n5_; clear n0_ n1_ n2_ n3_ n4_ n5_; (try clear hb); (try clear hb2); (try clear hk); (try clear hi); have hnb24 := NB145_146.out; have hnc24 := NB146_145.out; have hnb25 := NB145_147.out; have hnc25 := NB147_145.out; obtain ⟨hcz26_0, hcz26_1, hcz26_2, hcz26_3, hcz26_4, hcz26_5⟩ := blk_cells6 BK145.out; obtain ⟨hfz26_0, hfz26_1, hfz26_2, hfz26_3, hfz26_4, hfz26_5⟩ := blk_frozens6 BK145.out; obtain ⟨hcz27_0, hcz27_1, hcz27_2, hcz27_3, hcz27_4, hcz27_5, hcz27_6, hcz27_7, hcz27_8⟩ := blk_cells9 BK153.out; obtain ⟨hfz27_0, hfz27_1, hfz27_2, hfz27_3, hfz27_4, hfz27_5, hfz27_6, hfz27_7, hfz27_8⟩ := blk_frozens9 BK153.out) | (go_at_call 24; (with_reducible refine (colloquyref05_Interfere.calls k1 a1_0 a1_1 a1_2 a1_3 a1_4 a1_5 ((rd_T29 l0 x12_1).f1.f0) ((rd_T29 l0 x12_1).f1.f1) ((rd_T29 l0 x12_1).f1.f2) ((rd_T29 l0 x12_1).f1.f3) ((rd_T29 l0 x12_1).f1.f4) ((rd_T29 l0 x12_1).f1.f5) t155 _ A16.out).mono ?_); rintro e w28 ⟨rfl, hb⟩; have n0_ := Aside0.mk (Kd.R_below (Kd.rk HO_11) hb); have n1_ := Aside0.mk (blk_below (g := gb145) (bk BK145) hb); have n2_ := Aside0.mk (blk_below (g := gb146) (bk BK146) hb); have n3_ := Aside0.mk (blk_below (g := gb147) (bk BK147) hb); have n4_ := Aside0.mk (blk_below (g := gb153) (bk BK153) hb); have n5_ := Aside0.mk (below_step (gw_ HB) hb); clear HO_11; clear BK145; clear BK146; clear BK147; clear BK153; clear HB; have HO_11 := n0_; have BK145 := n1_; have BK146 := n2_; have BK147 := n3_; have BK153 := n4_; have HB := n5_; clear n0_ n1_ n2_ n3_ n4_ n5_; (try clear hb); (try clear hb2); (try clear hk); (try clear hi))); go_upto_region 10 with (first | ((with_reducible refine gate_dst (N := 13) rfl ?_); refine box_event ?hg (N := 13) ?hd (cs := #[.int .i64 0, .int .i64 0, .int .i64 0, .int .i64 0, .int .i64 0, .int .i64 0, .int .i64 0, .string (⟨#[]⟩ : ByteArray), .int .i64 0]) (t := 29) ?hr ?_; (case hd => rfl); (case hg => rfl); (case hr => first | (go_simp; done) | (go_simp; rfl)); intro gb153 hg w18 hbox hb; have n0_ := Aside0.mk (Kd.R_below (Kd.rk HO_11) hb); have n1_ := Aside0.mk (blk_below (g := gb145) (bk BK145) hb); have n2_ := Aside0.mk (blk_below (g := gb146) (bk BK146) hb); have n3_ := Aside0.mk (blk_below (g := gb147) (bk BK147) hb); have s_ := step_size_ (gw_ HB) hb hg; have n4_ := Aside0.mk s_.1; have n5_ := Aside0.mk (hbox); have n6_ := Aside0.mk s_.2; clear s_; have n7_ := n6_; have l_ := blk_lt_ (g := gb145) hg (bk BK145); have n8_ := Aside0.mk (Nat.ne_of_lt l_); have n9_ := Aside0.mk (Nat.ne_of_gt l_); clear l_; have l_ := blk_lt_ (g := gb146) hg (bk BK146); have n10_ := Aside0.mk (Nat.ne_of_lt l_); have n11_ := Aside0.mk (Nat.ne_of_gt l_); clear l_; have l_ := blk_lt_ (g := gb147) hg (bk BK147); have n12_ := Aside0.mk (Nat.ne_of_lt l_); have n13_ := Aside0.mk (Nat.ne_of_gt l_); clear l_; clear HO_11; clear BK145; clear BK146; clear BK147; clear HB; have HO_11 := n0_; have BK145 := n1_; have BK146 := n2_; have BK147 := n3_; have HB := n4_; have BK153 := n5_; have GW153 := n6_; have GE153 := n7_; have NB145_153 := n8_; have NB153_145 := n9_; have NB146_153 := n10_; have NB153_146 := n11_; have NB147_153 := n12_; have NB153_147 := n13_; clear n0_ n1_ n2_ n3_ n4_ n5_ n6_ n7_ n8_ n9_ n10_ n11_ n12_ n13_; clear hb hbox hg; have hnb19 := NB153_145.out; have hnc19 := NB145_153.out; have hnb20 := NB153_146.out; have hnc20 := NB146_153.out; have hnb21 := NB153_147.out; have hnc21 := NB147_153.out; obtain ⟨hcz22_0, hcz22_1, hcz22_2, hcz22_3, hcz22_4, hcz22_5, hcz22_6, hcz22_7, hcz22_8⟩ := blk_cells9 BK153.out; obtain ⟨hfz22_0, hfz22_1, hfz22_2, hfz22_3, hfz22_4, hfz22_5, hfz22_6, hfz22_7, hfz22_8⟩ := blk_frozens9 BK153.out) | (go_at_call 23; (with_reducible refine (colloquyref08_may.calls ((rd_T29 l0 x12_1).f0.f0) ((rd_T29 l0 x12_1).f0.f1) t148 t154 _ A15.out).mono ?_); rintro e w23 ⟨rfl, hb⟩; have n0_ := Aside0.mk (Kd.R_below (by (with_reducible repeat (first | apply Kd.R_alloc | apply Kd.R_drewN | apply Kd.R_drew)); exact (Kd.R_mono (Kd.R_far9 (g := gb153) (Kd.R_types HO_11.out BK153.out (by decide)) (fun _ hk => hk.2)) (fun _ h_ => h_.1))) hb); have n1_ := Aside0.mk (blk_below (g := gb145) (o := .cells #[.int .i64 a1_0, .int .i64 a1_1, .int .i64 a1_2, .int .i64 a1_3, .int .i64 a1_4, .string a1_5] 24 (0, 0)) (by (with_reducible repeat (first | refine blk_drewN ?_ _ | refine blk_drew ?_ | refine blk_alloc ?_ _)); (iterate 9 (refine blk_far ?_ NB145_153.out _)); (with_reducible repeat (first | refine blk_drewN ?_ _ | refine blk_drew ?_ | refine blk_alloc ?_ _)); exact BK145.out) hb); have n2_ := Aside0.mk (blk_below (g := gb146) (o := .cells #[.int .i64 a2_0, .int .i64 a2_1] 26 (0, 0)) (by (with_reducible repeat (first | refine blk_drewN ?_ _ | refine blk_drew ?_ | refine blk_alloc ?_ _)); (iterate 9 (refine blk_far ?_ NB146_153.out _)); (with_reducible repeat (first | refine blk_drewN ?_ _ | refine blk_drew ?_ | refine blk_alloc ?_ _)); exact BK146.out) hb); have n3_ := Aside0.mk (blk_below (g := gb147) (o := .cells #[.int .i64 0, .slice none 0 0] 32 (0, 0)) (by (with_reducible repeat (first | refine blk_drewN ?_ _ | refine blk_drew ?_ | refine blk_alloc ?_ _)); (iterate 9 (refine blk_far ?_ NB147_153.out _)); (with_reducible repeat (first | refine blk_drewN ?_ _ | refine blk_drew ?_ | refine blk_alloc ?_ _)); exact BK147.out) hb); have n4_ := Aside0.mk (blk_below (g := gb153) (o := .cells #[.int .i64 ((rd_T29 l0 x12_1).f0.f0), .int .i64 ((rd_T29 l0 x12_1).f0.f1), .int .i64 ((rd_T29 l0 x12_1).f1.f0), .int .i64 ((rd_T29 l0 x12_1).f1.f1), .int .i64 ((rd_T29 l0 x12_1).f1.f2), .int .i64 ((rd_T29 l0 x12_1).f1.f3), .int .i64 ((rd_T29 l0 x12_1).f1.f4), .string ((rd_T29 l0 x12_1).f1.f5), .int .i64 ((rd_T29 l0 x12_1).f2)] 29 (0, 0)) (by (with_reducible repeat (first | refine blk_drewN ?_ _ | refine blk_drew ?_ | refine blk_alloc ?_ _)); refine blk_put9 (cs := #[.int .i64 0, .int .i64 0, .int .i64 0, .int .i64 0, .int .i64 0, .int .i64 0, .int .i64 0, .string (⟨#[]⟩ : ByteArray), .int .i64 0]) ?_ rfl; (with_reducible repeat (first | refine blk_drewN ?_ _ | refine blk_drew ?_ | refine blk_alloc ?_ _)); exact BK153.out) hb); have n5_ := Aside0.mk (below_step (gw_ HB) hb); clear HO_11; clear BK145; clear BK146; clear BK147; clear BK153; clear HB; have HO_11 := n0_; have BK145 := n1_; have BK146 := n2_; have BK147 := n3_; have BK153 := n4_; have HB := n5_; clear n0_ n1_ n2_ n3_ n4_ n5_; (try clear hb); (try clear hb2); (try clear hk); (try clear hi); have hnb24 := NB145_146.out; have hnc24 := NB146_145.out; have hnb25 := NB145_147.out; have hnc25 := NB147_145.out; obtain ⟨hcz26_0, hcz26_1, hcz26_2, hcz26_3, hcz26_4, hcz26_5⟩ := blk_cells6 BK145.out; obtain ⟨hfz26_0, hfz26_1, hfz26_2, hfz26_3, hfz26_4, hfz26_5⟩ := blk_frozens6 BK145.out; obtain ⟨hcz27_0, hcz27_1, hcz27_2, hcz27_3, hcz27_4, hcz27_5, hcz27_6, hcz27_7, hcz27_8⟩ := blk_cells9 BK153.out; obtain ⟨hfz27_0, hfz27_1, hfz27_2, hfz27_3, hfz27_4, hfz27_5, hfz27_6, hfz27_7, hfz27_8⟩ := blk_frozens9 BK153.out) | (go_at_call 24; (with_reducible refine (colloquyref05_Interfere.calls k1 a1_0 a1_1 a1_2 a1_3 a1_4 a1_5 ((rd_T29 l0 x12_1).f1.f0) ((rd_T29 l0 x12_1).f1.f1) ((rd_T29 l0 x12_1).f1.f2) ((rd_T29 l0 x12_1).f1.f3) ((rd_T29 l0 x12_1).f1.f4) ((rd_T29 l0 x12_1).f1.f5) t155 _ A16.out).mono ?_); rintro e w28 ⟨rfl, hb⟩; have n0_ := Aside0.mk (Kd.R_below (Kd.rk HO_11) hb); have n1_ := Aside0.mk (blk_below (g := gb145) (bk BK145) hb); have n2_ := Aside0.mk (blk_below (g := gb146) (bk BK146) hb); have n3_ := Aside0.mk (blk_below (g := gb147) (bk BK147) hb); have n4_ := Aside0.mk (blk_below (g := gb153) (bk BK153) hb); have n5_ := Aside0.mk (below_step (gw_ HB) hb); clear HO_11; clear BK145; clear BK146; clear BK147; clear BK153; clear HB; have HO_11 := n0_; have BK145 := n1_; have BK146 := n2_; have BK147 := n3_; have BK153 := n4_; have HB := n5_; clear n0_ n1_ n2_ n3_ n4_ n5_; (try clear hb); (try clear hb2); (try clear hk); (try clear hi))))
       (try simp only [Act.put, List.setIfInBounds_toArray, List.set_cons_zero, List.set_cons_succ])
       go_cut [49] (fun v49 wc => ∃ (kq : Nat) (x49_16 : Bool), v49 = .bool x49_16 ∧ Aside0 (colloquyref08_Of.j1 kq l0 t148 x10_1 x11_1 x12_1 x49_16 a1_0 a1_1 a1_2 a1_3 a1_4 a1_5 a2_0 a2_1 ((rd_T29 l0 x12_1).f0.f0) ((rd_T29 l0 x12_1).f0.f1) ((rd_T29 l0 x12_1).f1.f0) ((rd_T29 l0 x12_1).f1.f1) ((rd_T29 l0 x12_1).f1.f2) ((rd_T29 l0 x12_1).f1.f3) ((rd_T29 l0 x12_1).f1.f4) ((rd_T29 l0 x12_1).f1.f5) ((rd_T29 l0 x12_1).f2) = some (r1, r2)) ∧ Aside0 (kq ≤ k1) ∧ Aside0 (Kd.R (Kd.int .i64) 3 wc w.heap.size (fun _ => True) v150 x11_1) ∧ Aside0 (wc.heap[gb145]? = some (.cells #[.int .i64 a1_0, .int .i64 a1_1, .int .i64 a1_2, .int .i64 a1_3, .int .i64 a1_4, .string a1_5] 24 (0, 0))) ∧ Aside0 (wc.heap[gb146]? = some (.cells #[.int .i64 a2_0, .int .i64 a2_1] 26 (0, 0))) ∧ Aside0 (wc.heap[gb147]? = some (.cells #[.int .i64 0, (.slice none 0 0)] 32 (0, 0))) ∧ Aside0 (wc.heap[gb153]? = some (.cells #[.int .i64 ((rd_T29 l0 x12_1).f0.f0), .int .i64 ((rd_T29 l0 x12_1).f0.f1), .int .i64 ((rd_T29 l0 x12_1).f1.f0), .int .i64 ((rd_T29 l0 x12_1).f1.f1), .int .i64 ((rd_T29 l0 x12_1).f1.f2), .int .i64 ((rd_T29 l0 x12_1).f1.f3), .int .i64 ((rd_T29 l0 x12_1).f1.f4), .string ((rd_T29 l0 x12_1).f1.f5), .int .i64 ((rd_T29 l0 x12_1).f2)] 29 (0, 0))) ∧ Aside0 (Below w.heap.size w wc))
       case first =>
        have H := HC17.out
        clear HC17
        by_cases c29 : t154 = true
        ·
         subst c29
         have H1 : (if t155 = true then (colloquyref08_Of.j1 k1 l0 t148 x10_1 x11_1 x12_1 (((rd_T29 l0 x12_1).f0.f0) == a2_0 && (((rd_T29 l0 x12_1).f0.f1) == a2_1)) a1_0 a1_1 a1_2 a1_3 a1_4 a1_5 a2_0 a2_1 ((rd_T29 l0 x12_1).f0.f0) ((rd_T29 l0 x12_1).f0.f1) ((rd_T29 l0 x12_1).f1.f0) ((rd_T29 l0 x12_1).f1.f1) ((rd_T29 l0 x12_1).f1.f2) ((rd_T29 l0 x12_1).f1.f3) ((rd_T29 l0 x12_1).f1.f4) ((rd_T29 l0 x12_1).f1.f5) ((rd_T29 l0 x12_1).f2)) else (colloquyref08_Of.j1 k1 l0 t148 x10_1 x11_1 x12_1 true a1_0 a1_1 a1_2 a1_3 a1_4 a1_5 a2_0 a2_1 ((rd_T29 l0 x12_1).f0.f0) ((rd_T29 l0 x12_1).f0.f1) ((rd_T29 l0 x12_1).f1.f0) ((rd_T29 l0 x12_1).f1.f1) ((rd_T29 l0 x12_1).f1.f2) ((rd_T29 l0 x12_1).f1.f3) ((rd_T29 l0 x12_1).f1.f4) ((rd_T29 l0 x12_1).f1.f5) ((rd_T29 l0 x12_1).f2))) = some (r1, r2) := by rw [if_pos rfl] at H; exact H
         clear H
         have H := H1
         clear H1
         by_cases c30 : t155 = true
         ·
          subst c30
          have H1 : (colloquyref08_Of.j1 k1 l0 t148 x10_1 x11_1 x12_1 (((rd_T29 l0 x12_1).f0.f0) == a2_0 && (((rd_T29 l0 x12_1).f0.f1) == a2_1)) a1_0 a1_1 a1_2 a1_3 a1_4 a1_5 a2_0 a2_1 ((rd_T29 l0 x12_1).f0.f0) ((rd_T29 l0 x12_1).f0.f1) ((rd_T29 l0 x12_1).f1.f0) ((rd_T29 l0 x12_1).f1.f1) ((rd_T29 l0 x12_1).f1.f2) ((rd_T29 l0 x12_1).f1.f3) ((rd_T29 l0 x12_1).f1.f4) ((rd_T29 l0 x12_1).f1.f5) ((rd_T29 l0 x12_1).f2)) = some (r1, r2) := by rw [if_pos rfl] at H; exact H
          clear H
          have H := H1
          clear H1
          have H' := Aside0.mk H
          clear H
          have hnb31 := NB153_145.out
          have hnc31 := NB145_153.out
          have hnb32 := NB153_146.out
          have hnc32 := NB146_153.out
          have hnb33 := NB153_147.out
          have hnc33 := NB147_153.out
          obtain ⟨hcz34_0, hcz34_1, hcz34_2, hcz34_3, hcz34_4, hcz34_5, hcz34_6, hcz34_7, hcz34_8⟩ := blk_cells9 BK153.out
          obtain ⟨hfz34_0, hfz34_1, hfz34_2, hfz34_3, hfz34_4, hfz34_5, hfz34_6, hfz34_7, hfz34_8⟩ := blk_frozens9 BK153.out
          have hnb35 := NB146_145.out
          have hnc35 := NB145_146.out
          have hnb36 := NB146_147.out
          have hnc36 := NB147_146.out
          obtain ⟨hcz37_0, hcz37_1⟩ := blk_cells2 BK146.out
          obtain ⟨hfz37_0, hfz37_1⟩ := blk_frozens2 BK146.out
          go_wp2
          repeat (go_quiet (fail); try go_wp2)
          go_meet
          case rel => exact ⟨_, ((((rd_T29 l0 x12_1).f0.f0) == a2_0 && (((rd_T29 l0 x12_1).f0.f1) == a2_1))), (by first | rfl | (simp; done) | (simp [*]; done)), H', ⟨by have := HK1.out; first | omega | exact Nat.le_refl _⟩, ⟨by (with_reducible repeat (first | apply Kd.R_alloc | apply Kd.R_drewN | apply Kd.R_drew)); exact HO_11.out⟩, ⟨by (with_reducible repeat (first | refine blk_drewN ?_ _ | refine blk_drew ?_ | refine blk_alloc ?_ _)); exact BK145.out⟩, ⟨by (with_reducible repeat (first | refine blk_drewN ?_ _ | refine blk_drew ?_ | refine blk_alloc ?_ _)); exact BK146.out⟩, ⟨by (with_reducible repeat (first | refine blk_drewN ?_ _ | refine blk_drew ?_ | refine blk_alloc ?_ _)); exact BK147.out⟩, ⟨by (with_reducible repeat (first | refine blk_drewN ?_ _ | refine blk_drew ?_ | refine blk_alloc ?_ _)); exact BK153.out⟩, ⟨gw_ HB⟩⟩
         ·
          replace c30 := Bool.eq_false_iff.mpr c30
          subst c30
          have H1 : (colloquyref08_Of.j1 k1 l0 t148 x10_1 x11_1 x12_1 true a1_0 a1_1 a1_2 a1_3 a1_4 a1_5 a2_0 a2_1 ((rd_T29 l0 x12_1).f0.f0) ((rd_T29 l0 x12_1).f0.f1) ((rd_T29 l0 x12_1).f1.f0) ((rd_T29 l0 x12_1).f1.f1) ((rd_T29 l0 x12_1).f1.f2) ((rd_T29 l0 x12_1).f1.f3) ((rd_T29 l0 x12_1).f1.f4) ((rd_T29 l0 x12_1).f1.f5) ((rd_T29 l0 x12_1).f2)) = some (r1, r2) := by rw [if_neg (show ¬ (false = true) by decide)] at H; exact H
          clear H
          have H := H1
          clear H1
          have H' := Aside0.mk H
          clear H
          go_wp2
          repeat (go_quiet (fail); try go_wp2)
          go_meet
          case rel => exact ⟨_, (true), (by first | rfl | (simp; done) | (simp [*]; done)), H', ⟨by have := HK1.out; first | omega | exact Nat.le_refl _⟩, ⟨by (with_reducible repeat (first | apply Kd.R_alloc | apply Kd.R_drewN | apply Kd.R_drew)); exact HO_11.out⟩, ⟨by (with_reducible repeat (first | refine blk_drewN ?_ _ | refine blk_drew ?_ | refine blk_alloc ?_ _)); exact BK145.out⟩, ⟨by (with_reducible repeat (first | refine blk_drewN ?_ _ | refine blk_drew ?_ | refine blk_alloc ?_ _)); exact BK146.out⟩, ⟨by (with_reducible repeat (first | refine blk_drewN ?_ _ | refine blk_drew ?_ | refine blk_alloc ?_ _)); exact BK147.out⟩, ⟨by (with_reducible repeat (first | refine blk_drewN ?_ _ | refine blk_drew ?_ | refine blk_alloc ?_ _)); exact BK153.out⟩, ⟨gw_ HB⟩⟩
        ·
         replace c29 := Bool.eq_false_iff.mpr c29
         subst c29
         have H1 : (colloquyref08_Of.j1 k1 l0 t148 x10_1 x11_1 x12_1 true a1_0 a1_1 a1_2 a1_3 a1_4 a1_5 a2_0 a2_1 ((rd_T29 l0 x12_1).f0.f0) ((rd_T29 l0 x12_1).f0.f1) ((rd_T29 l0 x12_1).f1.f0) ((rd_T29 l0 x12_1).f1.f1) ((rd_T29 l0 x12_1).f1.f2) ((rd_T29 l0 x12_1).f1.f3) ((rd_T29 l0 x12_1).f1.f4) ((rd_T29 l0 x12_1).f1.f5) ((rd_T29 l0 x12_1).f2)) = some (r1, r2) := by rw [if_neg (show ¬ (false = true) by decide)] at H; exact H
         clear H
         have H := H1
         clear H1
         have H' := Aside0.mk H
         clear H
         go_wp2
         repeat (go_quiet (fail); try go_wp2)
         go_meet
         case rel => exact ⟨_, (true), (by first | rfl | (simp; done) | (simp [*]; done)), H', ⟨by have := HK1.out; first | omega | exact Nat.le_refl _⟩, ⟨by (with_reducible repeat (first | apply Kd.R_alloc | apply Kd.R_drewN | apply Kd.R_drew)); exact HO_11.out⟩, ⟨by (with_reducible repeat (first | refine blk_drewN ?_ _ | refine blk_drew ?_ | refine blk_alloc ?_ _)); exact BK145.out⟩, ⟨by (with_reducible repeat (first | refine blk_drewN ?_ _ | refine blk_drew ?_ | refine blk_alloc ?_ _)); exact BK146.out⟩, ⟨by (with_reducible repeat (first | refine blk_drewN ?_ _ | refine blk_drew ?_ | refine blk_alloc ?_ _)); exact BK147.out⟩, ⟨by (with_reducible repeat (first | refine blk_drewN ?_ _ | refine blk_drew ?_ | refine blk_alloc ?_ _)); exact BK153.out⟩, ⟨gw_ HB⟩⟩
       case rest =>
        clear HC17
        try clear c1
        try clear p1
        try clear q1
        try clear hx1
        try clear c2
        try clear p2
        try clear c3
        try clear c6
        try clear c6b0
        try clear c6b1
        try clear c7
        try clear c7b0
        try clear c7b1
        try clear c11
        try clear c13
        try clear c13b0
        try clear c14
        try clear c14b0
        try clear p15
        try clear q15
        try clear hx15
        try clear c19
        try clear c20
        try clear c21
        try clear c24
        try clear c25
        try clear c29
        try clear c30
        try clear c31
        try clear c32
        try clear c33
        try clear c35
        try clear c36
        try clear hcz22_0
        try clear hcz22_1
        try clear hcz22_2
        try clear hcz22_3
        try clear hcz22_4
        try clear hcz22_5
        try clear hcz22_6
        try clear hcz22_7
        try clear hcz22_8
        try clear hcz26_0
        try clear hcz26_1
        try clear hcz26_2
        try clear hcz26_3
        try clear hcz26_4
        try clear hcz26_5
        try clear hcz27_0
        try clear hcz27_1
        try clear hcz27_2
        try clear hcz27_3
        try clear hcz27_4
        try clear hcz27_5
        try clear hcz27_6
        try clear hcz27_7
        try clear hcz27_8
        try clear hcz34_0
        try clear hcz34_1
        try clear hcz34_2
        try clear hcz34_3
        try clear hcz34_4
        try clear hcz34_5
        try clear hcz34_6
        try clear hcz34_7
        try clear hcz34_8
        try clear hcz37_0
        try clear hcz37_1
        try clear hfz22_0
        try clear hfz22_1
        try clear hfz22_2
        try clear hfz22_3
        try clear hfz22_4
        try clear hfz22_5
        try clear hfz22_6
        try clear hfz22_7
        try clear hfz22_8
        try clear hfz26_0
        try clear hfz26_1
        try clear hfz26_2
        try clear hfz26_3
        try clear hfz26_4
        try clear hfz26_5
        try clear hfz27_0
        try clear hfz27_1
        try clear hfz27_2
        try clear hfz27_3
        try clear hfz27_4
        try clear hfz27_5
        try clear hfz27_6
        try clear hfz27_7
        try clear hfz27_8
        try clear hfz34_0
        try clear hfz34_1
        try clear hfz34_2
        try clear hfz34_3
        try clear hfz34_4
        try clear hfz34_5
        try clear hfz34_6
        try clear hfz34_7
        try clear hfz34_8
        try clear hfz37_0
        try clear hfz37_1
        try clear hx152_0
        try clear hx152_1
        try clear hx152_2
        try clear hx152_3
        try clear hx152_4
        try clear hx152_5
        try clear hx152_6
        try clear hx152_7
        try clear hx152_8
        try clear p152
        try clear p2
        try clear q152
        obtain ⟨kq, x49_16, rfl, HA, HJ16, HO_11, BK145, BK146, BK147, BK153, HB⟩ := hcut
        cases kq with
        | zero => exact absurd HA.out (by simp [colloquyref08_Of.j1])
        | succ kj16 =>
         have H := HA.out
         clear HA
         simp only [colloquyref08_Of.j1] at H
         by_cases c38 : x49_16 = true
         ·
          subst c38
          have H1 : (colloquyref08_Of.l0 kj16 l0 t148 x10_1 x11_1 (wrap64 (x12_1 + 1)) a1_0 a1_1 a1_2 a1_3 a1_4 a1_5 a2_0 a2_1) = some (r1, r2) := by rw [if_pos rfl] at H; exact H
          clear H
          have H := H1
          clear H1
          have H' := Aside0.mk H
          clear H
          go_wp2
          repeat (go_quiet (fail); try go_wp2)
          go_roundg kj16
          case measure => have := HK1.out; have := HJ16.out; omega
          case rel => exact ⟨(x10_1), (x11_1), (wrap64 (x12_1 + 1)), (by first | rfl | (simp; done) | (simp [*]; done)), (by first | rfl | (simp; done) | (simp [*]; done)), H', ⟨by have := HK1.out; have := HJ16.out; omega⟩, ⟨by (with_reducible repeat (first | apply Kd.R_alloc | apply Kd.R_drewN | apply Kd.R_drew)); exact HO_11.out⟩, ⟨by (with_reducible repeat (first | refine blk_drewN ?_ _ | refine blk_drew ?_ | refine blk_alloc ?_ _)); exact BK145.out⟩, ⟨by (with_reducible repeat (first | refine blk_drewN ?_ _ | refine blk_drew ?_ | refine blk_alloc ?_ _)); exact BK146.out⟩, ⟨by (with_reducible repeat (first | refine blk_drewN ?_ _ | refine blk_drew ?_ | refine blk_alloc ?_ _)); exact BK147.out⟩, ⟨gw_ HB⟩⟩
         ·
          replace c38 := Bool.eq_false_iff.mpr c38
          subst c38
          have H1 : (if ((rd_T29 l0 x12_1).f2) > x10_1 then (if 0 ≤ (wrap64 (((rd_T29 l0 x12_1).f0.f0) - 1)) then (if (wrap64 (((rd_T29 l0 x12_1).f0.f0) - 1)) < (x11_1.length : Int) then (if ((rd_T29 l0 x12_1).f0.f1) > (rd x11_1 (wrap64 (((rd_T29 l0 x12_1).f0.f0) - 1))) then (colloquyref08_Of.l0 kj16 l0 t148 ((rd_T29 l0 x12_1).f2) (x11_1.set ((wrap64 (((rd_T29 l0 x12_1).f0.f0) - 1)) : Int).toNat ((rd_T29 l0 x12_1).f0.f1)) (wrap64 (x12_1 + 1)) a1_0 a1_1 a1_2 a1_3 a1_4 a1_5 a2_0 a2_1) else (colloquyref08_Of.l0 kj16 l0 t148 ((rd_T29 l0 x12_1).f2) x11_1 (wrap64 (x12_1 + 1)) a1_0 a1_1 a1_2 a1_3 a1_4 a1_5 a2_0 a2_1)) else (none)) else (none)) else (if 0 ≤ (wrap64 (((rd_T29 l0 x12_1).f0.f0) - 1)) then (if (wrap64 (((rd_T29 l0 x12_1).f0.f0) - 1)) < (x11_1.length : Int) then (if ((rd_T29 l0 x12_1).f0.f1) > (rd x11_1 (wrap64 (((rd_T29 l0 x12_1).f0.f0) - 1))) then (colloquyref08_Of.l0 kj16 l0 t148 x10_1 (x11_1.set ((wrap64 (((rd_T29 l0 x12_1).f0.f0) - 1)) : Int).toNat ((rd_T29 l0 x12_1).f0.f1)) (wrap64 (x12_1 + 1)) a1_0 a1_1 a1_2 a1_3 a1_4 a1_5 a2_0 a2_1) else (colloquyref08_Of.l0 kj16 l0 t148 x10_1 x11_1 (wrap64 (x12_1 + 1)) a1_0 a1_1 a1_2 a1_3 a1_4 a1_5 a2_0 a2_1)) else (none)) else (none))) = some (r1, r2) := by rw [if_neg (show ¬ (false = true) by decide)] at H; exact H
          clear H
          have H := H1
          clear H1
          by_cases c39 : ((rd_T29 l0 x12_1).f2) > x10_1
          ·
           rw [if_pos c39] at H
           have c39b0 : decide (x10_1 < ((rd_T29 l0 x12_1).f2)) = true := decide_eq_true c39
           clear c39
           obtain ⟨ji40, hji40⟩ : ∃ j_ : Int, (wrap64 (((rd_T29 l0 x12_1).f0.f0) - 1)) = j_ := ⟨_, rfl⟩
           replace H : (if 0 ≤ (ji40) then (if (ji40) < (x11_1.length : Int) then (if ((rd_T29 l0 x12_1).f0.f1) > (rd x11_1 (ji40)) then (colloquyref08_Of.l0 kj16 l0 t148 ((rd_T29 l0 x12_1).f2) (x11_1.set ((ji40) : Int).toNat ((rd_T29 l0 x12_1).f0.f1)) (wrap64 (x12_1 + 1)) a1_0 a1_1 a1_2 a1_3 a1_4 a1_5 a2_0 a2_1) else (colloquyref08_Of.l0 kj16 l0 t148 ((rd_T29 l0 x12_1).f2) x11_1 (wrap64 (x12_1 + 1)) a1_0 a1_1 a1_2 a1_3 a1_4 a1_5 a2_0 a2_1)) else (none)) else (none)) = some (r1, r2) := by first | (rw [hji40] at H; exact H) | (simp only [hji40] at H ⊢; exact H)
           have hji40w : (IntKind.i64.wrap (((rd_T29 l0 x12_1).f0.f0) - 1)) = ji40 := (i64_w _).trans hji40
           by_cases c41 : 0 ≤ (ji40)
           ·
            rw [if_pos c41] at H
            have c41b0 : decide (0 ≤ (ji40)) = true := decide_eq_true c41
            clear c41
            by_cases c42 : (ji40) < (x11_1.length : Int)
            ·
             rw [if_pos c42] at H
             have c42b0 : decide ((ji40) < (x11_1.length : Int)) = true := decide_eq_true c42
             clear c42
             by_cases c43 : ((rd_T29 l0 x12_1).f0.f1) > (rd x11_1 (ji40))
             ·
              rw [if_pos c43] at H
              have c43b0 : decide ((rd x11_1 (ji40)) < ((rd_T29 l0 x12_1).f0.f1)) = true := decide_eq_true c43
              clear c43
              obtain ⟨y157, hy157⟩ : ∃ y_ : List Int, y_ = (x11_1.set ((ji40) : Int).toNat ((rd_T29 l0 x12_1).f0.f1)) := ⟨_, rfl⟩
              replace H : (colloquyref08_Of.l0 kj16 l0 t148 ((rd_T29 l0 x12_1).f2) y157 (wrap64 (x12_1 + 1)) a1_0 a1_1 a1_2 a1_3 a1_4 a1_5 a2_0 a2_1) = some (r1, r2) := by first | (rw [hy157]; with_reducible exact H) | (have H2_ := (Option.bind_some _ _).symm.trans H; rw [hy157]; with_reducible exact H2_) | (have H2_ := (Option.bind_some _ _).symm.trans H; with_reducible exact H2_) | with_reducible exact H | (rw [hy157]; exact H) | exact H
              have Ny157 := Aside0.mk hy157
              clear hy157
              have H' := Aside0.mk H
              clear H
              have hnb45 := NB153_145.out
              have hnc45 := NB145_153.out
              have hnb46 := NB153_146.out
              have hnc46 := NB146_153.out
              have hnb47 := NB153_147.out
              have hnc47 := NB147_153.out
              obtain ⟨hcz48_0, hcz48_1, hcz48_2, hcz48_3, hcz48_4, hcz48_5, hcz48_6, hcz48_7, hcz48_8⟩ := blk_cells9 BK153.out
              obtain ⟨hfz48_0, hfz48_1, hfz48_2, hfz48_3, hfz48_4, hfz48_5, hfz48_6, hfz48_7, hfz48_8⟩ := blk_frozens9 BK153.out
              obtain ⟨Ao49, co49, eo49⟩ := Kd.R_slice HO_11.out
              subst eo49
              have p156 : 0 ≤ ((ji40) : Int) := of_decide_eq_true (by first | (with_reducible assumption) | assumption)
              have q156 : (ji40) < (x11_1.length : Int) := of_decide_eq_true (by first | (with_reducible assumption) | assumption)
              obtain ⟨ad156, e156, hx156_0⟩ := Kd.at_int (Kd.R_reads' HO_11.out).2.2 (ji40) p156 q156
              cases e156
              replace p156 := eq_true p156
              replace q156 := eq_true q156
              have p44 : 0 ≤ ((ji40) : Int) := of_decide_eq_true (by first | (with_reducible assumption) | assumption)
              have q44 : ((ji40) : Int) < ((x11_1.length : Int) : Int) := of_decide_eq_true (by first | (with_reducible assumption) | assumption)
              obtain ⟨go44, co44, eo44, gb44, gl44, cl44, HG44⟩ := Kd.R_form HO_11.out (by omega)
              (first | cases eo44 | (injection eo44 with ea_ en_ ec_; (first | subst ea_ | (injection ea_ with ea_; subst ea_)); subst ec_; clear en_))
              have GB44 := Aside0.mk gb44
              have GG44 := Aside0.mk HG44
              clear gb44 gl44 HG44
              (first | simp only [add_plain] at hx156_0 | skip)
              obtain ⟨hx44_0, hf44_0⟩ := Kd.R_celln 0 HO_11.out ((ji40) : Int) p44 q44
              replace p44 := eq_true p44
              replace q44 := eq_true q44
              have HP50 := Kd.R_putg HO_11.out ((ji40) : Int) ((rd_T29 l0 x12_1).f0.f1)
              go_wp2_with (first | ((with_reducible refine gate_store (t := 3) (p := 75) rfl ?_); (try (rw [drewN_self wc]; generalize hq_ : World.drewN wc _ = wc; have n0_ := Aside0.mk (Kd.R_at hq_ HO_11.out); have n1_ := Aside0.mk (blk_at hq_ BK145.out); have n2_ := Aside0.mk (blk_at hq_ BK146.out); have n3_ := Aside0.mk (blk_at hq_ BK147.out); have n4_ := Aside0.mk (blk_at hq_ BK153.out); have n5_ := Aside0.mk (below_at hq_ HB.out); clear hq_ HO_11 BK145 BK146 BK147 BK153 HB; have HO_11 := n0_; have BK145 := n1_; have BK146 := n2_; have BK147 := n3_; have BK153 := n4_; have HB := n5_; clear n0_ n1_ n2_ n3_ n4_ n5_; (try (obtain ⟨hx44_0, hf44_0⟩ := Kd.R_celln 0 HO_11.out ((ji40) : Int) (of_eq_true p44) (of_eq_true q44))); (try (obtain ⟨hx44_0, hf44_0⟩ := Kd.R_celln 0 HO_11.out ((ji40) : Int) (of_eq_true p44) (of_eq_true q44))); (try (have HP50 := Kd.R_putg HO_11.out ((ji40) : Int) ((rd_T29 l0 x12_1).f0.f1))))); refine store_event (t := 3) (p := 75) (v := ?vo_w51) (w1 := (wc.setCell ⟨go44, ((ji40) : Int).toNat, none⟩ (.int .i64 ((rd_T29 l0 x12_1).f0.f1)))) ?hg ?ho ?hn ?hr ?_; (case ho => rfl); (case hg => rfl); (case hn => rfl); (case hr => first | (go_simp; done) | (go_simp; rfl)); intro w51 hw; have hg : wc.grownBy w51 (some go44) := (by rw [hw]; exact HP50.2); have hp_ : Kd.R (Kd.int .i64) 3 w51 w.heap.size (fun _ => True) (.slice (some ⟨go44, 0, none⟩) x11_1.length co49) y157 := (by rw [hw, Ny157.out]; exact HP50.1); clear HP50; have n0_ := Aside0.mk (hp_); have n1_ := Aside0.mk (blk_grown (g := gb145) (bk BK145) hg (Kd.R_ne HO_11.out BK145.out (by decide))); have n2_ := Aside0.mk (blk_grown (g := gb146) (bk BK146) hg (Kd.R_ne HO_11.out BK146.out (by decide))); have n3_ := Aside0.mk (blk_grown (g := gb147) (bk BK147) hg (Kd.R_ne HO_11.out BK147.out (by decide))); have n4_ := Aside0.mk (blk_grown (g := gb153) (bk BK153) hg (Kd.R_ne HO_11.out BK153.out (by decide))); have n5_ := Aside0.mk ((by rw [hw]; exact below_set (HB.out) GB44.out : Below w.heap.size w w51)); clear HO_11; clear BK145; clear BK146; clear BK147; clear BK153; clear HB; have HO_11 := n0_; have BK145 := n1_; have BK146 := n2_; have BK147 := n3_; have BK153 := n4_; have HB := n5_; clear n0_ n1_ n2_ n3_ n4_ n5_; clear hg hw hp_))
              repeat (go_quiet (first | ((with_reducible refine gate_store (t := 3) (p := 75) rfl ?_); (try (rw [drewN_self wc]; generalize hq_ : World.drewN wc _ = wc; have n0_ := Aside0.mk (Kd.R_at hq_ HO_11.out); have n1_ := Aside0.mk (blk_at hq_ BK145.out); have n2_ := Aside0.mk (blk_at hq_ BK146.out); have n3_ := Aside0.mk (blk_at hq_ BK147.out); have n4_ := Aside0.mk (blk_at hq_ BK153.out); have n5_ := Aside0.mk (below_at hq_ HB.out); clear hq_ HO_11 BK145 BK146 BK147 BK153 HB; have HO_11 := n0_; have BK145 := n1_; have BK146 := n2_; have BK147 := n3_; have BK153 := n4_; have HB := n5_; clear n0_ n1_ n2_ n3_ n4_ n5_; (try (obtain ⟨hx44_0, hf44_0⟩ := Kd.R_celln 0 HO_11.out ((ji40) : Int) (of_eq_true p44) (of_eq_true q44))); (try (obtain ⟨hx44_0, hf44_0⟩ := Kd.R_celln 0 HO_11.out ((ji40) : Int) (of_eq_true p44) (of_eq_true q44))); (try (have HP50 := Kd.R_putg HO_11.out ((ji40) : Int) ((rd_T29 l0 x12_1).f0.f1))))); refine store_event (t := 3) (p := 75) (v := ?vo_w51) (w1 := (wc.setCell ⟨go44, ((ji40) : Int).toNat, none⟩ (.int .i64 ((rd_T29 l0 x12_1).f0.f1)))) ?hg ?ho ?hn ?hr ?_; (case ho => rfl); (case hg => rfl); (case hn => rfl); (case hr => first | (go_simp; done) | (go_simp; rfl)); intro w51 hw; have hg : wc.grownBy w51 (some go44) := (by rw [hw]; exact HP50.2); have hp_ : Kd.R (Kd.int .i64) 3 w51 w.heap.size (fun _ => True) (.slice (some ⟨go44, 0, none⟩) x11_1.length co49) y157 := (by rw [hw, Ny157.out]; exact HP50.1); clear HP50; have n0_ := Aside0.mk (hp_); have n1_ := Aside0.mk (blk_grown (g := gb145) (bk BK145) hg (Kd.R_ne HO_11.out BK145.out (by decide))); have n2_ := Aside0.mk (blk_grown (g := gb146) (bk BK146) hg (Kd.R_ne HO_11.out BK146.out (by decide))); have n3_ := Aside0.mk (blk_grown (g := gb147) (bk BK147) hg (Kd.R_ne HO_11.out BK147.out (by decide))); have n4_ := Aside0.mk (blk_grown (g := gb153) (bk BK153) hg (Kd.R_ne HO_11.out BK153.out (by decide))); have n5_ := Aside0.mk ((by rw [hw]; exact below_set (HB.out) GB44.out : Below w.heap.size w w51)); clear HO_11; clear BK145; clear BK146; clear BK147; clear BK153; clear HB; have HO_11 := n0_; have BK145 := n1_; have BK146 := n2_; have BK147 := n3_; have BK153 := n4_; have HB := n5_; clear n0_ n1_ n2_ n3_ n4_ n5_; clear hg hw hp_)); try go_wp2_with (first | ((with_reducible refine gate_store (t := 3) (p := 75) rfl ?_); (try (rw [drewN_self wc]; generalize hq_ : World.drewN wc _ = wc; have n0_ := Aside0.mk (Kd.R_at hq_ HO_11.out); have n1_ := Aside0.mk (blk_at hq_ BK145.out); have n2_ := Aside0.mk (blk_at hq_ BK146.out); have n3_ := Aside0.mk (blk_at hq_ BK147.out); have n4_ := Aside0.mk (blk_at hq_ BK153.out); have n5_ := Aside0.mk (below_at hq_ HB.out); clear hq_ HO_11 BK145 BK146 BK147 BK153 HB; have HO_11 := n0_; have BK145 := n1_; have BK146 := n2_; have BK147 := n3_; have BK153 := n4_; have HB := n5_; clear n0_ n1_ n2_ n3_ n4_ n5_; (try (obtain ⟨hx44_0, hf44_0⟩ := Kd.R_celln 0 HO_11.out ((ji40) : Int) (of_eq_true p44) (of_eq_true q44))); (try (obtain ⟨hx44_0, hf44_0⟩ := Kd.R_celln 0 HO_11.out ((ji40) : Int) (of_eq_true p44) (of_eq_true q44))); (try (have HP50 := Kd.R_putg HO_11.out ((ji40) : Int) ((rd_T29 l0 x12_1).f0.f1))))); refine store_event (t := 3) (p := 75) (v := ?vo_w51) (w1 := (wc.setCell ⟨go44, ((ji40) : Int).toNat, none⟩ (.int .i64 ((rd_T29 l0 x12_1).f0.f1)))) ?hg ?ho ?hn ?hr ?_; (case ho => rfl); (case hg => rfl); (case hn => rfl); (case hr => first | (go_simp; done) | (go_simp; rfl)); intro w51 hw; have hg : wc.grownBy w51 (some go44) := (by rw [hw]; exact HP50.2); have hp_ : Kd.R (Kd.int .i64) 3 w51 w.heap.size (fun _ => True) (.slice (some ⟨go44, 0, none⟩) x11_1.length co49) y157 := (by rw [hw, Ny157.out]; exact HP50.1); clear HP50; have n0_ := Aside0.mk (hp_); have n1_ := Aside0.mk (blk_grown (g := gb145) (bk BK145) hg (Kd.R_ne HO_11.out BK145.out (by decide))); have n2_ := Aside0.mk (blk_grown (g := gb146) (bk BK146) hg (Kd.R_ne HO_11.out BK146.out (by decide))); have n3_ := Aside0.mk (blk_grown (g := gb147) (bk BK147) hg (Kd.R_ne HO_11.out BK147.out (by decide))); have n4_ := Aside0.mk (blk_grown (g := gb153) (bk BK153) hg (Kd.R_ne HO_11.out BK153.out (by decide))); have n5_ := Aside0.mk ((by rw [hw]; exact below_set (HB.out) GB44.out : Below w.heap.size w w51)); clear HO_11; clear BK145; clear BK146; clear BK147; clear BK153; clear HB; have HO_11 := n0_; have BK145 := n1_; have BK146 := n2_; have BK147 := n3_; have BK153 := n4_; have HB := n5_; clear n0_ n1_ n2_ n3_ n4_ n5_; clear hg hw hp_)))
              go_roundg kj16
              case measure => have := HK1.out; have := HJ16.out; omega
              case rel => exact ⟨(((rd_T29 l0 x12_1).f2)), (y157), (wrap64 (x12_1 + 1)), (by first | rfl | (simp; done) | (simp [*]; done)), (by first | rfl | (simp; done) | (simp [*]; done)), H', ⟨by have := HK1.out; have := HJ16.out; omega⟩, ⟨by (with_reducible repeat (first | apply Kd.R_alloc | apply Kd.R_drewN | apply Kd.R_drew)); exact HO_11.out⟩, ⟨by (with_reducible repeat (first | refine blk_drewN ?_ _ | refine blk_drew ?_ | refine blk_alloc ?_ _)); exact BK145.out⟩, ⟨by (with_reducible repeat (first | refine blk_drewN ?_ _ | refine blk_drew ?_ | refine blk_alloc ?_ _)); exact BK146.out⟩, ⟨by (with_reducible repeat (first | refine blk_drewN ?_ _ | refine blk_drew ?_ | refine blk_alloc ?_ _)); exact BK147.out⟩, ⟨gw_ HB⟩⟩
             ·
              rw [if_neg c43] at H
              have c43b0 : decide ((rd x11_1 (ji40)) < ((rd_T29 l0 x12_1).f0.f1)) = false := decide_eq_false c43
              clear c43
              have H' := Aside0.mk H
              clear H
              have hnb52 := NB153_145.out
              have hnc52 := NB145_153.out
              have hnb53 := NB153_146.out
              have hnc53 := NB146_153.out
              have hnb54 := NB153_147.out
              have hnc54 := NB147_153.out
              obtain ⟨hcz55_0, hcz55_1, hcz55_2, hcz55_3, hcz55_4, hcz55_5, hcz55_6, hcz55_7, hcz55_8⟩ := blk_cells9 BK153.out
              obtain ⟨hfz55_0, hfz55_1, hfz55_2, hfz55_3, hfz55_4, hfz55_5, hfz55_6, hfz55_7, hfz55_8⟩ := blk_frozens9 BK153.out
              obtain ⟨Ao56, co56, eo56⟩ := Kd.R_slice HO_11.out
              subst eo56
              have p156 : 0 ≤ ((ji40) : Int) := of_decide_eq_true (by first | (with_reducible assumption) | assumption)
              have q156 : (ji40) < (x11_1.length : Int) := of_decide_eq_true (by first | (with_reducible assumption) | assumption)
              obtain ⟨ad156, e156, hx156_0⟩ := Kd.at_int (Kd.R_reads' HO_11.out).2.2 (ji40) p156 q156
              cases e156
              replace p156 := eq_true p156
              replace q156 := eq_true q156
              go_wp2
              repeat (go_quiet (fail); try go_wp2)
              go_roundg kj16
              case measure => have := HK1.out; have := HJ16.out; omega
              case rel => exact ⟨(((rd_T29 l0 x12_1).f2)), (x11_1), (wrap64 (x12_1 + 1)), (by first | rfl | (simp; done) | (simp [*]; done)), (by first | rfl | (simp; done) | (simp [*]; done)), H', ⟨by have := HK1.out; have := HJ16.out; omega⟩, ⟨by (with_reducible repeat (first | apply Kd.R_alloc | apply Kd.R_drewN | apply Kd.R_drew)); exact HO_11.out⟩, ⟨by (with_reducible repeat (first | refine blk_drewN ?_ _ | refine blk_drew ?_ | refine blk_alloc ?_ _)); exact BK145.out⟩, ⟨by (with_reducible repeat (first | refine blk_drewN ?_ _ | refine blk_drew ?_ | refine blk_alloc ?_ _)); exact BK146.out⟩, ⟨by (with_reducible repeat (first | refine blk_drewN ?_ _ | refine blk_drew ?_ | refine blk_alloc ?_ _)); exact BK147.out⟩, ⟨gw_ HB⟩⟩
            ·
             rw [if_neg c42] at H
             exact absurd H (by simp)
           ·
            rw [if_neg c41] at H
            exact absurd H (by simp)
          ·
           rw [if_neg c39] at H
           have c39b0 : decide (x10_1 < ((rd_T29 l0 x12_1).f2)) = false := decide_eq_false c39
           clear c39
           obtain ⟨ji57, hji57⟩ : ∃ j_ : Int, (wrap64 (((rd_T29 l0 x12_1).f0.f0) - 1)) = j_ := ⟨_, rfl⟩
           replace H : (if 0 ≤ (ji57) then (if (ji57) < (x11_1.length : Int) then (if ((rd_T29 l0 x12_1).f0.f1) > (rd x11_1 (ji57)) then (colloquyref08_Of.l0 kj16 l0 t148 x10_1 (x11_1.set ((ji57) : Int).toNat ((rd_T29 l0 x12_1).f0.f1)) (wrap64 (x12_1 + 1)) a1_0 a1_1 a1_2 a1_3 a1_4 a1_5 a2_0 a2_1) else (colloquyref08_Of.l0 kj16 l0 t148 x10_1 x11_1 (wrap64 (x12_1 + 1)) a1_0 a1_1 a1_2 a1_3 a1_4 a1_5 a2_0 a2_1)) else (none)) else (none)) = some (r1, r2) := by first | (rw [hji57] at H; exact H) | (simp only [hji57] at H ⊢; exact H)
           have hji57w : (IntKind.i64.wrap (((rd_T29 l0 x12_1).f0.f0) - 1)) = ji57 := (i64_w _).trans hji57
           by_cases c58 : 0 ≤ (ji57)
           ·
            rw [if_pos c58] at H
            have c58b0 : decide (0 ≤ (ji57)) = true := decide_eq_true c58
            clear c58
            by_cases c59 : (ji57) < (x11_1.length : Int)
            ·
             rw [if_pos c59] at H
             have c59b0 : decide ((ji57) < (x11_1.length : Int)) = true := decide_eq_true c59
             clear c59
             by_cases c60 : ((rd_T29 l0 x12_1).f0.f1) > (rd x11_1 (ji57))
             ·
              rw [if_pos c60] at H
              have c60b0 : decide ((rd x11_1 (ji57)) < ((rd_T29 l0 x12_1).f0.f1)) = true := decide_eq_true c60
              clear c60
              obtain ⟨y159, hy159⟩ : ∃ y_ : List Int, y_ = (x11_1.set ((ji57) : Int).toNat ((rd_T29 l0 x12_1).f0.f1)) := ⟨_, rfl⟩
              replace H : (colloquyref08_Of.l0 kj16 l0 t148 x10_1 y159 (wrap64 (x12_1 + 1)) a1_0 a1_1 a1_2 a1_3 a1_4 a1_5 a2_0 a2_1) = some (r1, r2) := by first | (rw [hy159]; with_reducible exact H) | (have H2_ := (Option.bind_some _ _).symm.trans H; rw [hy159]; with_reducible exact H2_) | (have H2_ := (Option.bind_some _ _).symm.trans H; with_reducible exact H2_) | with_reducible exact H | (rw [hy159]; exact H) | exact H
              have Ny159 := Aside0.mk hy159
              clear hy159
              have H' := Aside0.mk H
              clear H
              have hnb62 := NB153_145.out
              have hnc62 := NB145_153.out
              have hnb63 := NB153_146.out
              have hnc63 := NB146_153.out
              have hnb64 := NB153_147.out
              have hnc64 := NB147_153.out
              obtain ⟨hcz65_0, hcz65_1, hcz65_2, hcz65_3, hcz65_4, hcz65_5, hcz65_6, hcz65_7, hcz65_8⟩ := blk_cells9 BK153.out
              obtain ⟨hfz65_0, hfz65_1, hfz65_2, hfz65_3, hfz65_4, hfz65_5, hfz65_6, hfz65_7, hfz65_8⟩ := blk_frozens9 BK153.out
              obtain ⟨Ao66, co66, eo66⟩ := Kd.R_slice HO_11.out
              subst eo66
              have p158 : 0 ≤ ((ji57) : Int) := of_decide_eq_true (by first | (with_reducible assumption) | assumption)
              have q158 : (ji57) < (x11_1.length : Int) := of_decide_eq_true (by first | (with_reducible assumption) | assumption)
              obtain ⟨ad158, e158, hx158_0⟩ := Kd.at_int (Kd.R_reads' HO_11.out).2.2 (ji57) p158 q158
              cases e158
              replace p158 := eq_true p158
              replace q158 := eq_true q158
              have p61 : 0 ≤ ((ji57) : Int) := of_decide_eq_true (by first | (with_reducible assumption) | assumption)
              have q61 : ((ji57) : Int) < ((x11_1.length : Int) : Int) := of_decide_eq_true (by first | (with_reducible assumption) | assumption)
              obtain ⟨go61, co61, eo61, gb61, gl61, cl61, HG61⟩ := Kd.R_form HO_11.out (by omega)
              (first | cases eo61 | (injection eo61 with ea_ en_ ec_; (first | subst ea_ | (injection ea_ with ea_; subst ea_)); subst ec_; clear en_))
              have GB61 := Aside0.mk gb61
              have GG61 := Aside0.mk HG61
              clear gb61 gl61 HG61
              (first | simp only [add_plain] at hx158_0 | skip)
              obtain ⟨hx61_0, hf61_0⟩ := Kd.R_celln 0 HO_11.out ((ji57) : Int) p61 q61
              replace p61 := eq_true p61
              replace q61 := eq_true q61
              have HP67 := Kd.R_putg HO_11.out ((ji57) : Int) ((rd_T29 l0 x12_1).f0.f1)
              go_wp2_with (first | ((with_reducible refine gate_store (t := 3) (p := 75) rfl ?_); (try (rw [drewN_self wc]; generalize hq_ : World.drewN wc _ = wc; have n0_ := Aside0.mk (Kd.R_at hq_ HO_11.out); have n1_ := Aside0.mk (blk_at hq_ BK145.out); have n2_ := Aside0.mk (blk_at hq_ BK146.out); have n3_ := Aside0.mk (blk_at hq_ BK147.out); have n4_ := Aside0.mk (blk_at hq_ BK153.out); have n5_ := Aside0.mk (below_at hq_ HB.out); clear hq_ HO_11 BK145 BK146 BK147 BK153 HB; have HO_11 := n0_; have BK145 := n1_; have BK146 := n2_; have BK147 := n3_; have BK153 := n4_; have HB := n5_; clear n0_ n1_ n2_ n3_ n4_ n5_; (try (obtain ⟨hx61_0, hf61_0⟩ := Kd.R_celln 0 HO_11.out ((ji57) : Int) (of_eq_true p61) (of_eq_true q61))); (try (obtain ⟨hx61_0, hf61_0⟩ := Kd.R_celln 0 HO_11.out ((ji57) : Int) (of_eq_true p61) (of_eq_true q61))); (try (have HP67 := Kd.R_putg HO_11.out ((ji57) : Int) ((rd_T29 l0 x12_1).f0.f1))))); refine store_event (t := 3) (p := 75) (v := ?vo_w68) (w1 := (wc.setCell ⟨go61, ((ji57) : Int).toNat, none⟩ (.int .i64 ((rd_T29 l0 x12_1).f0.f1)))) ?hg ?ho ?hn ?hr ?_; (case ho => rfl); (case hg => rfl); (case hn => rfl); (case hr => first | (go_simp; done) | (go_simp; rfl)); intro w68 hw; have hg : wc.grownBy w68 (some go61) := (by rw [hw]; exact HP67.2); have hp_ : Kd.R (Kd.int .i64) 3 w68 w.heap.size (fun _ => True) (.slice (some ⟨go61, 0, none⟩) x11_1.length co66) y159 := (by rw [hw, Ny159.out]; exact HP67.1); clear HP67; have n0_ := Aside0.mk (hp_); have n1_ := Aside0.mk (blk_grown (g := gb145) (bk BK145) hg (Kd.R_ne HO_11.out BK145.out (by decide))); have n2_ := Aside0.mk (blk_grown (g := gb146) (bk BK146) hg (Kd.R_ne HO_11.out BK146.out (by decide))); have n3_ := Aside0.mk (blk_grown (g := gb147) (bk BK147) hg (Kd.R_ne HO_11.out BK147.out (by decide))); have n4_ := Aside0.mk (blk_grown (g := gb153) (bk BK153) hg (Kd.R_ne HO_11.out BK153.out (by decide))); have n5_ := Aside0.mk ((by rw [hw]; exact below_set (HB.out) GB61.out : Below w.heap.size w w68)); clear HO_11; clear BK145; clear BK146; clear BK147; clear BK153; clear HB; have HO_11 := n0_; have BK145 := n1_; have BK146 := n2_; have BK147 := n3_; have BK153 := n4_; have HB := n5_; clear n0_ n1_ n2_ n3_ n4_ n5_; clear hg hw hp_))
              repeat (go_quiet (first | ((with_reducible refine gate_store (t := 3) (p := 75) rfl ?_); (try (rw [drewN_self wc]; generalize hq_ : World.drewN wc _ = wc; have n0_ := Aside0.mk (Kd.R_at hq_ HO_11.out); have n1_ := Aside0.mk (blk_at hq_ BK145.out); have n2_ := Aside0.mk (blk_at hq_ BK146.out); have n3_ := Aside0.mk (blk_at hq_ BK147.out); have n4_ := Aside0.mk (blk_at hq_ BK153.out); have n5_ := Aside0.mk (below_at hq_ HB.out); clear hq_ HO_11 BK145 BK146 BK147 BK153 HB; have HO_11 := n0_; have BK145 := n1_; have BK146 := n2_; have BK147 := n3_; have BK153 := n4_; have HB := n5_; clear n0_ n1_ n2_ n3_ n4_ n5_; (try (obtain ⟨hx61_0, hf61_0⟩ := Kd.R_celln 0 HO_11.out ((ji57) : Int) (of_eq_true p61) (of_eq_true q61))); (try (obtain ⟨hx61_0, hf61_0⟩ := Kd.R_celln 0 HO_11.out ((ji57) : Int) (of_eq_true p61) (of_eq_true q61))); (try (have HP67 := Kd.R_putg HO_11.out ((ji57) : Int) ((rd_T29 l0 x12_1).f0.f1))))); refine store_event (t := 3) (p := 75) (v := ?vo_w68) (w1 := (wc.setCell ⟨go61, ((ji57) : Int).toNat, none⟩ (.int .i64 ((rd_T29 l0 x12_1).f0.f1)))) ?hg ?ho ?hn ?hr ?_; (case ho => rfl); (case hg => rfl); (case hn => rfl); (case hr => first | (go_simp; done) | (go_simp; rfl)); intro w68 hw; have hg : wc.grownBy w68 (some go61) := (by rw [hw]; exact HP67.2); have hp_ : Kd.R (Kd.int .i64) 3 w68 w.heap.size (fun _ => True) (.slice (some ⟨go61, 0, none⟩) x11_1.length co66) y159 := (by rw [hw, Ny159.out]; exact HP67.1); clear HP67; have n0_ := Aside0.mk (hp_); have n1_ := Aside0.mk (blk_grown (g := gb145) (bk BK145) hg (Kd.R_ne HO_11.out BK145.out (by decide))); have n2_ := Aside0.mk (blk_grown (g := gb146) (bk BK146) hg (Kd.R_ne HO_11.out BK146.out (by decide))); have n3_ := Aside0.mk (blk_grown (g := gb147) (bk BK147) hg (Kd.R_ne HO_11.out BK147.out (by decide))); have n4_ := Aside0.mk (blk_grown (g := gb153) (bk BK153) hg (Kd.R_ne HO_11.out BK153.out (by decide))); have n5_ := Aside0.mk ((by rw [hw]; exact below_set (HB.out) GB61.out : Below w.heap.size w w68)); clear HO_11; clear BK145; clear BK146; clear BK147; clear BK153; clear HB; have HO_11 := n0_; have BK145 := n1_; have BK146 := n2_; have BK147 := n3_; have BK153 := n4_; have HB := n5_; clear n0_ n1_ n2_ n3_ n4_ n5_; clear hg hw hp_)); try go_wp2_with (first | ((with_reducible refine gate_store (t := 3) (p := 75) rfl ?_); (try (rw [drewN_self wc]; generalize hq_ : World.drewN wc _ = wc; have n0_ := Aside0.mk (Kd.R_at hq_ HO_11.out); have n1_ := Aside0.mk (blk_at hq_ BK145.out); have n2_ := Aside0.mk (blk_at hq_ BK146.out); have n3_ := Aside0.mk (blk_at hq_ BK147.out); have n4_ := Aside0.mk (blk_at hq_ BK153.out); have n5_ := Aside0.mk (below_at hq_ HB.out); clear hq_ HO_11 BK145 BK146 BK147 BK153 HB; have HO_11 := n0_; have BK145 := n1_; have BK146 := n2_; have BK147 := n3_; have BK153 := n4_; have HB := n5_; clear n0_ n1_ n2_ n3_ n4_ n5_; (try (obtain ⟨hx61_0, hf61_0⟩ := Kd.R_celln 0 HO_11.out ((ji57) : Int) (of_eq_true p61) (of_eq_true q61))); (try (obtain ⟨hx61_0, hf61_0⟩ := Kd.R_celln 0 HO_11.out ((ji57) : Int) (of_eq_true p61) (of_eq_true q61))); (try (have HP67 := Kd.R_putg HO_11.out ((ji57) : Int) ((rd_T29 l0 x12_1).f0.f1))))); refine store_event (t := 3) (p := 75) (v := ?vo_w68) (w1 := (wc.setCell ⟨go61, ((ji57) : Int).toNat, none⟩ (.int .i64 ((rd_T29 l0 x12_1).f0.f1)))) ?hg ?ho ?hn ?hr ?_; (case ho => rfl); (case hg => rfl); (case hn => rfl); (case hr => first | (go_simp; done) | (go_simp; rfl)); intro w68 hw; have hg : wc.grownBy w68 (some go61) := (by rw [hw]; exact HP67.2); have hp_ : Kd.R (Kd.int .i64) 3 w68 w.heap.size (fun _ => True) (.slice (some ⟨go61, 0, none⟩) x11_1.length co66) y159 := (by rw [hw, Ny159.out]; exact HP67.1); clear HP67; have n0_ := Aside0.mk (hp_); have n1_ := Aside0.mk (blk_grown (g := gb145) (bk BK145) hg (Kd.R_ne HO_11.out BK145.out (by decide))); have n2_ := Aside0.mk (blk_grown (g := gb146) (bk BK146) hg (Kd.R_ne HO_11.out BK146.out (by decide))); have n3_ := Aside0.mk (blk_grown (g := gb147) (bk BK147) hg (Kd.R_ne HO_11.out BK147.out (by decide))); have n4_ := Aside0.mk (blk_grown (g := gb153) (bk BK153) hg (Kd.R_ne HO_11.out BK153.out (by decide))); have n5_ := Aside0.mk ((by rw [hw]; exact below_set (HB.out) GB61.out : Below w.heap.size w w68)); clear HO_11; clear BK145; clear BK146; clear BK147; clear BK153; clear HB; have HO_11 := n0_; have BK145 := n1_; have BK146 := n2_; have BK147 := n3_; have BK153 := n4_; have HB := n5_; clear n0_ n1_ n2_ n3_ n4_ n5_; clear hg hw hp_)))
              go_roundg kj16
              case measure => have := HK1.out; have := HJ16.out; omega
              case rel => exact ⟨(x10_1), (y159), (wrap64 (x12_1 + 1)), (by first | rfl | (simp; done) | (simp [*]; done)), (by first | rfl | (simp; done) | (simp [*]; done)), H', ⟨by have := HK1.out; have := HJ16.out; omega⟩, ⟨by (with_reducible repeat (first | apply Kd.R_alloc | apply Kd.R_drewN | apply Kd.R_drew)); exact HO_11.out⟩, ⟨by (with_reducible repeat (first | refine blk_drewN ?_ _ | refine blk_drew ?_ | refine blk_alloc ?_ _)); exact BK145.out⟩, ⟨by (with_reducible repeat (first | refine blk_drewN ?_ _ | refine blk_drew ?_ | refine blk_alloc ?_ _)); exact BK146.out⟩, ⟨by (with_reducible repeat (first | refine blk_drewN ?_ _ | refine blk_drew ?_ | refine blk_alloc ?_ _)); exact BK147.out⟩, ⟨gw_ HB⟩⟩
             ·
              rw [if_neg c60] at H
              have c60b0 : decide ((rd x11_1 (ji57)) < ((rd_T29 l0 x12_1).f0.f1)) = false := decide_eq_false c60
              clear c60
              have H' := Aside0.mk H
              clear H
              have hnb69 := NB153_145.out
              have hnc69 := NB145_153.out
              have hnb70 := NB153_146.out
              have hnc70 := NB146_153.out
              have hnb71 := NB153_147.out
              have hnc71 := NB147_153.out
              obtain ⟨hcz72_0, hcz72_1, hcz72_2, hcz72_3, hcz72_4, hcz72_5, hcz72_6, hcz72_7, hcz72_8⟩ := blk_cells9 BK153.out
              obtain ⟨hfz72_0, hfz72_1, hfz72_2, hfz72_3, hfz72_4, hfz72_5, hfz72_6, hfz72_7, hfz72_8⟩ := blk_frozens9 BK153.out
              obtain ⟨Ao73, co73, eo73⟩ := Kd.R_slice HO_11.out
              subst eo73
              have p158 : 0 ≤ ((ji57) : Int) := of_decide_eq_true (by first | (with_reducible assumption) | assumption)
              have q158 : (ji57) < (x11_1.length : Int) := of_decide_eq_true (by first | (with_reducible assumption) | assumption)
              obtain ⟨ad158, e158, hx158_0⟩ := Kd.at_int (Kd.R_reads' HO_11.out).2.2 (ji57) p158 q158
              cases e158
              replace p158 := eq_true p158
              replace q158 := eq_true q158
              go_wp2
              repeat (go_quiet (fail); try go_wp2)
              go_roundg kj16
              case measure => have := HK1.out; have := HJ16.out; omega
              case rel => exact ⟨(x10_1), (x11_1), (wrap64 (x12_1 + 1)), (by first | rfl | (simp; done) | (simp [*]; done)), (by first | rfl | (simp; done) | (simp [*]; done)), H', ⟨by have := HK1.out; have := HJ16.out; omega⟩, ⟨by (with_reducible repeat (first | apply Kd.R_alloc | apply Kd.R_drewN | apply Kd.R_drew)); exact HO_11.out⟩, ⟨by (with_reducible repeat (first | refine blk_drewN ?_ _ | refine blk_drew ?_ | refine blk_alloc ?_ _)); exact BK145.out⟩, ⟨by (with_reducible repeat (first | refine blk_drewN ?_ _ | refine blk_drew ?_ | refine blk_alloc ?_ _)); exact BK146.out⟩, ⟨by (with_reducible repeat (first | refine blk_drewN ?_ _ | refine blk_drew ?_ | refine blk_alloc ?_ _)); exact BK147.out⟩, ⟨gw_ HB⟩⟩
            ·
             rw [if_neg c59] at H
             exact absurd H (by simp)
           ·
            rw [if_neg c58] at H
            exact absurd H (by simp)
      ·
       rw [if_neg c14] at H
       exact absurd H (by simp)
     ·
      rw [if_neg c13] at H
      have c13b0 : decide (x12_1 < (l0.length : Int)) = false := decide_eq_false c13
      clear c13
      simp only [Option.some.injEq, Prod.mk.injEq] at H
      obtain ⟨rfl, rfl⟩ := H
      obtain ⟨Ao74, co74, eo74⟩ := Kd.R_slice HO_11.out
      subst eo74
      have hnb75 := NB147_145.out
      have hnc75 := NB145_147.out
      have hnb76 := NB147_146.out
      have hnc76 := NB146_147.out
      obtain ⟨hcz77_0, hcz77_1⟩ := blk_cells2 BK147.out
      obtain ⟨hfz77_0, hfz77_1⟩ := blk_frozens2 BK147.out
      go_wp2
      repeat (go_quiet (fail); try go_wp2)
      refine bodyPost_ret (results_cell_row rfl _ _ gb147 32 #[.int .i64 (wrap64 (x10_1 + 1)), .slice Ao74 x11_1.length co74] (0, 0) _ rfl (by (with_reducible repeat (first | refine blk_drewN ?_ _ | refine blk_drew ?_ | refine blk_alloc ?_ _)); refine blk_put (cs := #[.int .i64 (wrap64 (x10_1 + 1)), .slice none 0 0]) ?_ 1 _ rfl; (with_reducible repeat (first | refine blk_drewN ?_ _ | refine blk_drew ?_ | refine blk_alloc ?_ _)); refine blk_put (cs := #[.int .i64 0, .slice none 0 0]) ?_ 0 _ rfl; (with_reducible repeat (first | refine blk_drewN ?_ _ | refine blk_drew ?_ | refine blk_alloc ?_ _)); exact BK147.out) Try.underlying32 rfl (by kernel_rfl)) rfl ?_
      exact ⟨_, by first | rfl | (simp [errW_none, errW_some] <;> rfl) | (simp [*, errW_none, errW_some] <;> rfl), by (with_reducible repeat (first | apply Kd.R_alloc | apply Kd.R_drewN | apply Kd.R_drew)); exact Kd.R_mono (Kd.R_far2 (g := gb147) (Kd.R_types HO_11.out BK147.out (by decide)) (fun _ hk => hk.2)) (fun _ hk => trivial), gw_ HB⟩
  ·
   rw [if_neg c7] at H
   exact absurd H (by simp)
 ·
  rw [if_neg c6] at H
  exact absurd H (by simp)

/-! ### colloquyref06_Dep: function 35 -/
def colloquyref06_Dep.f (a0_0 : Int) (l0_1 : List Int) (a1 : Int) : Option (Int) := if a1 < 1 then (some 0) else (if a1 > (l0_1.length : Int) then (some 0) else (if 0 ≤ (wrap64 (a1 - 1)) then (if (wrap64 (a1 - 1)) < (l0_1.length : Int) then (some (rd l0_1 (wrap64 (a1 - 1)))) else (none)) else (none)))
set_option maxHeartbeats 8000000 in
set_option maxRecDepth 100000 in
theorem colloquyref06_Dep.calls (a0_0 : Int) (A0_1 : Option Addr) (c0_1 : Nat) (l0_1 : List Int) (a1 : Int) (r : Int) (w : World) (hr0_1 : Kd.C (Kd.int .i64) w A0_1 l0_1.length l0_1) (hc0_1 : l0_1.length ≤ c0_1) (h : colloquyref06_Dep.f a0_0 l0_1 a1 = some r) :
  Calls Try.prog 35 #[.agg #[.int .i64 a0_0, .slice A0_1 l0_1.length c0_1], .int .i64 a1] w fun e w' => e = .returned (.int .i64 r) ∧ Below w.heap.size w w' := by
 have hu32 := Try.underlying32
 have HR0_1 := Aside0.mk hr0_1
 have HC0_1 := Aside0.mk hc0_1
 clear hr0_1 hc0_1
 have HB := Aside0.mk (Below.refl w.heap.size w)
 have H : (if a1 < 1 then (some 0) else (if a1 > (l0_1.length : Int) then (some 0) else (if 0 ≤ (wrap64 (a1 - 1)) then (if (wrap64 (a1 - 1)) < (l0_1.length : Int) then (some (rd l0_1 (wrap64 (a1 - 1)))) else (none)) else (none)))) = some r := h
 clear h
 by_cases c3 : a1 < 1
 ·
  rw [if_pos c3] at H
  have c3b0 : decide (a1 < 1) = true := decide_eq_true c3
  clear c3
  obtain rfl := Option.some.inj H
  go_enter Try.func35, Try.ntmps35
  go_wp2_with (first | ((with_reducible refine gate_dst (N := 2) rfl ?_); (try (refine gate_guard (by rfl) ?_; dsimp only)); refine box_event ?hg (N := 2) ?hd (cs := #[.int .i64 a0_0, .slice A0_1 l0_1.length c0_1]) (t := 32) ?hr ?_; (case hd => rfl); (case hg => rfl); (case hr => first | (go_simp; done) | (go_simp; rfl)); intro gb160 hg w4 hbox hb; have s_ := step_size_ (gw_ HB) hb hg; have n0_ := Aside0.mk s_.1; have n1_ := Aside0.mk (hbox); have n2_ := Aside0.mk s_.2; clear s_; have n3_ := n2_; clear HB; have HB := n0_; have BK160 := n1_; have GW160 := n2_; have GE160 := n3_; clear n0_ n1_ n2_ n3_; clear hb hbox hg))
  go_ret
  exact ⟨by first | rfl | (simp [errW_none, errW_some] <;> rfl) | (simp [*, errW_none, errW_some] <;> rfl), gw_ HB⟩
 ·
  rw [if_neg c3] at H
  have c3b0 : decide (a1 < 1) = false := decide_eq_false c3
  clear c3
  by_cases c5 : a1 > (l0_1.length : Int)
  ·
   rw [if_pos c5] at H
   have c5b0 : decide ((l0_1.length : Int) < a1) = true := decide_eq_true c5
   clear c5
   obtain rfl := Option.some.inj H
   go_enter Try.func35, Try.ntmps35
   go_wp2_with (first | ((with_reducible refine gate_dst (N := 2) rfl ?_); (try (refine gate_guard (by rfl) ?_; dsimp only)); refine box_event ?hg (N := 2) ?hd (cs := #[.int .i64 a0_0, .slice A0_1 l0_1.length c0_1]) (t := 32) ?hr ?_; (case hd => rfl); (case hg => rfl); (case hr => first | (go_simp; done) | (go_simp; rfl)); intro gb160 hg w6 hbox hb; have s_ := step_size_ (gw_ HB) hb hg; have n0_ := Aside0.mk s_.1; have n1_ := Aside0.mk (hbox); have n2_ := Aside0.mk s_.2; clear s_; have n3_ := n2_; clear HB; have HB := n0_; have BK160 := n1_; have GW160 := n2_; have GE160 := n3_; clear n0_ n1_ n2_ n3_; clear hb hbox hg; obtain ⟨hcz7_0, hcz7_1⟩ := blk_cells2 BK160.out; have hfz7_0 := blk_frozen BK160.out 0; have hfz7_1 := blk_frozen BK160.out 1))
   go_ret
   exact ⟨by first | rfl | (simp [errW_none, errW_some] <;> rfl) | (simp [*, errW_none, errW_some] <;> rfl), gw_ HB⟩
  ·
   rw [if_neg c5] at H
   have c5b0 : decide ((l0_1.length : Int) < a1) = false := decide_eq_false c5
   clear c5
   obtain ⟨ji8, hji8⟩ : ∃ j_ : Int, (wrap64 (a1 - 1)) = j_ := ⟨_, rfl⟩
   replace H : (if 0 ≤ (ji8) then (if (ji8) < (l0_1.length : Int) then (some (rd l0_1 (ji8))) else (none)) else (none)) = some r := by first | (rw [hji8] at H; exact H) | (simp only [hji8] at H ⊢; exact H)
   have hji8w : (IntKind.i64.wrap (a1 - 1)) = ji8 := (i64_w _).trans hji8
   by_cases c9 : 0 ≤ (ji8)
   ·
    rw [if_pos c9] at H
    have c9b0 : decide (0 ≤ (ji8)) = true := decide_eq_true c9
    clear c9
    by_cases c10 : (ji8) < (l0_1.length : Int)
    ·
     rw [if_pos c10] at H
     have c10b0 : decide ((ji8) < (l0_1.length : Int)) = true := decide_eq_true c10
     clear c10
     obtain rfl := Option.some.inj H
     go_enter Try.func35, Try.ntmps35
     go_wp2_with (first | ((with_reducible refine gate_dst (N := 2) rfl ?_); (try (refine gate_guard (by rfl) ?_; dsimp only)); refine box_event ?hg (N := 2) ?hd (cs := #[.int .i64 a0_0, .slice A0_1 l0_1.length c0_1]) (t := 32) ?hr ?_; (case hd => rfl); (case hg => rfl); (case hr => first | (go_simp; done) | (go_simp; rfl)); intro gb160 hg w11 hbox hb; have s_ := step_size_ (gw_ HB) hb hg; have n0_ := Aside0.mk s_.1; have n1_ := Aside0.mk (hbox); have n2_ := Aside0.mk s_.2; clear s_; have n3_ := n2_; clear HB; have HB := n0_; have BK160 := n1_; have GW160 := n2_; have GE160 := n3_; clear n0_ n1_ n2_ n3_; clear hb hbox hg; obtain ⟨hcz12_0, hcz12_1⟩ := blk_cells2 BK160.out; obtain ⟨hfz12_0, hfz12_1⟩ := blk_frozens2 BK160.out; have p161 : 0 ≤ ((ji8) : Int) := of_decide_eq_true (by first | (with_reducible assumption) | assumption); have q161 : (ji8) < (l0_1.length : Int) := of_decide_eq_true (by first | (with_reducible assumption) | assumption); obtain ⟨ad161, e161, hx161_0⟩ := Kd.at_int HR0_1.out (ji8) p161 q161; cases e161; replace hx161_0 := (HB.out.cell (World.block_lt_of_cell? w _ hx161_0)).trans hx161_0; replace p161 := eq_true p161; replace q161 := eq_true q161))
     go_ret
     exact ⟨by first | rfl | (simp [errW_none, errW_some] <;> rfl) | (simp only [← hji8]; first | rfl | (simp [errW_none, errW_some] <;> rfl)) | (simp [*, errW_none, errW_some] <;> rfl), gw_ HB⟩
    ·
     rw [if_neg c10] at H
     exact absurd H (by simp)
   ·
    rw [if_neg c9] at H
    exact absurd H (by simp)

end Go.Proofs.Ytgenfbpaooeofaa.P
