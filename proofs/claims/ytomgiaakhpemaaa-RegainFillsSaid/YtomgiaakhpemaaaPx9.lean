/- Plain Lean functions and their contracts over the translation, written by a program of this session (myprint.py, over the kit's print); no condition but each contract's own. -/
import Derived.Test.YtomgiaakhpemaaaPx0
import Derived.Test.YtomgiaakhpemaaaPx2
import Derived.Test.YtomgiaakhpemaaaPx4
import Derived.Test.YtomgiaakhpemaaaPx7
import Derived.Test.YtomgiaakhpemaaaPx8
namespace Go.Proofs.Ytomgiaakhpemaaa.P
open Go.RowKit Go.Proofs.YtomgiaakhpemaaaW.PrintWords Go.Proofs.YtomgiaakhpemaaaW.PrintLast Go.Proofs.YtomgiaakhpemaaaW.PrintMore
attribute [local go_sem] max2_int min2_int max_two min_two max_three min_three max_four min_four   -- for this text's walks alone
set_option linter.unusedVariables false
set_option linter.unusedSimpArgs false

attribute [local go_sem high] eqA28
/-! ### colloquylaw10_RegainFills: function 4 -/
mutual
def colloquylaw10_RegainFills.j0 : Nat → Int → Int → List (S35) → Bool → Bool → Option (Bool)
 | 0, _, _, _, _, _ => none
 | k + 1, x0, x1, x2, x7, x22 => if x22 = true then (some x7) else ((regain_Decide.f x0 x1 x2).bind fun bt239 => (colloquylaw10_RegainFills.l0 k x0 x2 0 false 0 bt239.1 bt239.2.1 bt239.2.2.1 bt239.2.2.2.1 bt239.2.2.2.2.1 bt239.2.2.2.2.2.1 bt239.2.2.2.2.2.2.1 bt239.2.2.2.2.2.2.2.1 bt239.2.2.2.2.2.2.2.2))
def colloquylaw10_RegainFills.l0 : Nat → Int → List (S35) → Int → Bool → Int → Int → Int → Int → Int → Int → Int → ByteArray → Int → List Int → Option (Bool)
 | 0, _, _, _, _, _, _, _, _, _, _, _, _, _, _ => none
 | k + 1, x0, x2, x10, x11, x12, x251000, x251001, x251002, x251003, x251004, x251005, x251006, x251007, x251008 => if x12 < (x2.length : Int) then (if 0 ≤ x12 then (if ((rd_T35 x2 x12).f1.f0) = 1 then (if x11 = true then (colloquylaw10_RegainFills.l0 k x0 x2 x10 true (wrap64 (x12 + 1)) x251000 x251001 x251002 x251003 x251004 x251005 x251006 x251007 x251008) else (colloquylaw10_RegainFills.l0 k x0 x2 x10 (((rd_T35 x2 x12).f1.f3.f0) == x251001 && (((rd_T35 x2 x12).f1.f3.f1) == x251002 && (((rd_T35 x2 x12).f1.f3.f2) == x251003 && (((rd_T35 x2 x12).f1.f3.f3) == x251004 && (((rd_T35 x2 x12).f1.f3.f4) == x251005 && ((((rd_T35 x2 x12).f1.f3.f5).toList) == x251006.toList)))))) (wrap64 (x12 + 1)) x251000 x251001 x251002 x251003 x251004 x251005 x251006 x251007 x251008)) else (if ((rd_T35 x2 x12).f1.f0) = 2 then (if x11 = true then (colloquylaw10_RegainFills.l0 k x0 x2 x10 true (wrap64 (x12 + 1)) x251000 x251001 x251002 x251003 x251004 x251005 x251006 x251007 x251008) else (colloquylaw10_RegainFills.l0 k x0 x2 x10 (((rd_T35 x2 x12).f1.f3.f0) == x251001 && (((rd_T35 x2 x12).f1.f3.f1) == x251002 && (((rd_T35 x2 x12).f1.f3.f2) == x251003 && (((rd_T35 x2 x12).f1.f3.f3) == x251004 && (((rd_T35 x2 x12).f1.f3.f4) == x251005 && ((((rd_T35 x2 x12).f1.f3.f5).toList) == x251006.toList)))))) (wrap64 (x12 + 1)) x251000 x251001 x251002 x251003 x251004 x251005 x251006 x251007 x251008)) else (if ((rd_T35 x2 x12).f1.f0) = 3 then (if x11 = true then (colloquylaw10_RegainFills.l0 k x0 x2 x10 true (wrap64 (x12 + 1)) x251000 x251001 x251002 x251003 x251004 x251005 x251006 x251007 x251008) else (colloquylaw10_RegainFills.l0 k x0 x2 x10 (((rd_T35 x2 x12).f1.f3.f0) == x251001 && (((rd_T35 x2 x12).f1.f3.f1) == x251002 && (((rd_T35 x2 x12).f1.f3.f2) == x251003 && (((rd_T35 x2 x12).f1.f3.f3) == x251004 && (((rd_T35 x2 x12).f1.f3.f4) == x251005 && ((((rd_T35 x2 x12).f1.f3.f5).toList) == x251006.toList)))))) (wrap64 (x12 + 1)) x251000 x251001 x251002 x251003 x251004 x251005 x251006 x251007 x251008)) else (colloquylaw10_RegainFills.l0 k x0 x2 (wrap64 (x10 + 1)) x11 (wrap64 (x12 + 1)) x251000 x251001 x251002 x251003 x251004 x251005 x251006 x251007 x251008)))) else (none)) else (if x251000 = 4 then ((regain_Quorum.f x0).bind fun t255 => (if x10 ≥ t255 then (some (x251001 == 0 && (x251002 == 0 && (x251003 == 0 && (x251004 == 0 && (x251005 == 0 && (x251006.toList == ([] : List UInt8)))))))) else (some false))) else (if x251000 = 0 then (some true) else (some x11)))
end
def colloquylaw10_RegainFills.f (k : Nat) (a0 : Int) (a1 : Int) (l2 : List (S35)) : Option (Bool) := (colloquylaw10_awake.f).bind fun t237 => ((colloquylaw10_few.f k l2).bind fun t238 => (if t237 = true then (colloquylaw10_RegainFills.j0 k a0 a1 l2 t237 (!t238)) else (colloquylaw10_RegainFills.j0 k a0 a1 l2 t237 true)))
theorem colloquylaw10_RegainFills.mono_l : ∀ k, (∀ y0 y1 y2 y3 y4, LeO (colloquylaw10_RegainFills.j0 k y0 y1 y2 y3 y4) (colloquylaw10_RegainFills.j0 (k + 1) y0 y1 y2 y3 y4)) ∧ (∀ y0 y1 y2 y3 y4 y5 y6 y7 y8 y9 y10 y11 y12 y13, LeO (colloquylaw10_RegainFills.l0 k y0 y1 y2 y3 y4 y5 y6 y7 y8 y9 y10 y11 y12 y13) (colloquylaw10_RegainFills.l0 (k + 1) y0 y1 y2 y3 y4 y5 y6 y7 y8 y9 y10 y11 y12 y13))
 | 0 => ⟨fun _ _ _ _ _ r h => by simp [colloquylaw10_RegainFills.j0] at h, fun _ _ _ _ _ _ _ _ _ _ _ _ _ _ r h => by simp [colloquylaw10_RegainFills.l0] at h⟩
 | k + 1 => by
  obtain ⟨ih0, ih1⟩ := colloquylaw10_RegainFills.mono_l k
  refine ⟨?_, ?_⟩
  ·
   intro y0 y1 y2 y3 y4
   unfold colloquylaw10_RegainFills.j0
   repeat' first
   | (with_reducible exact ih0 _ _ _ _ _)
   | (with_reducible exact ih1 _ _ _ _ _ _ _ _ _ _ _ _ _ _)
   | (with_reducible exact colloquylaw10_few.mono _ _)
   | (with_reducible exact LeO.refl _)
   | (with_reducible exact LeO.none _)
   | (with_reducible refine LeO.ite ?_ ?_)
   | (with_reducible refine LeO.bind ?_ (fun _ => ?_))
   | exact ih0 _ _ _ _ _
   | exact ih1 _ _ _ _ _ _ _ _ _ _ _ _ _ _
   | exact colloquylaw10_few.mono _ _
   | exact LeO.none _
   | refine LeO.ite ?_ ?_
   | refine LeO.bind ?_ (fun _ => ?_)
  ·
   intro y0 y1 y2 y3 y4 y5 y6 y7 y8 y9 y10 y11 y12 y13
   unfold colloquylaw10_RegainFills.l0
   repeat' first
   | (with_reducible exact ih0 _ _ _ _ _)
   | (with_reducible exact ih1 _ _ _ _ _ _ _ _ _ _ _ _ _ _)
   | (with_reducible exact colloquylaw10_few.mono _ _)
   | (with_reducible exact LeO.refl _)
   | (with_reducible exact LeO.none _)
   | (with_reducible refine LeO.ite ?_ ?_)
   | (with_reducible refine LeO.bind ?_ (fun _ => ?_))
   | exact ih0 _ _ _ _ _
   | exact ih1 _ _ _ _ _ _ _ _ _ _ _ _ _ _
   | exact colloquylaw10_few.mono _ _
   | exact LeO.none _
   | refine LeO.ite ?_ ?_
   | refine LeO.bind ?_ (fun _ => ?_)
theorem colloquylaw10_RegainFills.mono : ∀ a0 a1 a2 k, LeO (colloquylaw10_RegainFills.f k a0 a1 a2) (colloquylaw10_RegainFills.f (k + 1) a0 a1 a2) := by
 intro a0 a1 a2 k
 obtain ⟨ih0, ih1⟩ := colloquylaw10_RegainFills.mono_l k
 unfold colloquylaw10_RegainFills.f
 repeat' first
   | (with_reducible exact ih0 _ _ _ _ _)
   | (with_reducible exact ih1 _ _ _ _ _ _ _ _ _ _ _ _ _ _)
   | (with_reducible exact colloquylaw10_few.mono _ _)
   | (with_reducible exact LeO.refl _)
   | (with_reducible exact LeO.none _)
   | (with_reducible refine LeO.ite ?_ ?_)
   | (with_reducible refine LeO.bind ?_ (fun _ => ?_))
   | exact ih0 _ _ _ _ _
   | exact ih1 _ _ _ _ _ _ _ _ _ _ _ _ _ _
   | exact colloquylaw10_few.mono _ _
   | exact LeO.none _
   | refine LeO.ite ?_ ?_
   | refine LeO.bind ?_ (fun _ => ?_)
set_option maxHeartbeats 8000000 in
set_option maxRecDepth 100000 in
theorem colloquylaw10_RegainFills.calls (k : Nat) (a0 : Int) (a1 : Int) (A2 : Option Addr) (c2 : Nat) (l2 : List (S35)) (r : Bool) (w : World) (hr2 : Kd.C k35 w A2 l2.length l2) (hc2 : l2.length ≤ c2) (hrt : r = true) (h : colloquylaw10_RegainFills.f k a0 a1 l2 = some r) :
  Calls Try.prog 4 #[.int .i64 a0, .int .i64 a1, .slice A2 l2.length c2] w fun e w' => e = .returned (.bool r) ∧ Below w.heap.size w w' := by
 have hu37 := Try.underlying37
 have hu28 := Try.underlying28
 have HRT := Aside0.mk hrt
 clear hrt
 have HR2 := Aside0.mk hr2
 have HC2 := Aside0.mk hc2
 clear hr2 hc2
 have HB := Aside0.mk (Below.refl w.heap.size w)
 have H : ((colloquylaw10_awake.f).bind fun t237 => ((colloquylaw10_few.f k l2).bind fun t238 => (if t237 = true then (colloquylaw10_RegainFills.j0 k a0 a1 l2 t237 (!t238)) else (colloquylaw10_RegainFills.j0 k a0 a1 l2 t237 true)))) = some r := h
 clear h
 replace H := Option.bind_eq_some_iff.mp H
 obtain ⟨t237, A40, H⟩ := H
 replace H : ((colloquylaw10_few.f k l2).bind fun t238 => (if t237 = true then (colloquylaw10_RegainFills.j0 k a0 a1 l2 t237 (!t238)) else (colloquylaw10_RegainFills.j0 k a0 a1 l2 t237 true))) = some r := H
 have A4 := Aside0.mk A40
 clear A40
 replace H := Option.bind_eq_some_iff.mp H
 obtain ⟨t238, A50, H⟩ := H
 replace H : (if t237 = true then (colloquylaw10_RegainFills.j0 k a0 a1 l2 t237 (!t238)) else (colloquylaw10_RegainFills.j0 k a0 a1 l2 t237 true)) = some r := H
 have A5 := Aside0.mk A50
 clear A50
 have HC6 := Aside0.mk H
 clear H
 go_enter Try.func4, Try.ntmps4
 go_upto_region 3 with (first | (go_at_call 8; (with_reducible refine (colloquylaw10_awake.calls  t237 _ A4.out).mono ?_); rintro e w7 ⟨rfl, hb⟩; have n0_ := Aside0.mk (below_step (gw_ HB) hb); clear HB; have HB := n0_; clear n0_; (try clear hb); (try clear hb2); (try clear hk); (try clear hi)) | (go_at_call 9; (with_reducible refine (colloquylaw10_few.calls k _ _ l2 t238 _ ?side1 ?side2 A5.out).mono ?_); (case side1 => repeat (first | exact (Kd.C_below HR2.out HB.out) | (with_reducible refine Kd.C_alloc ?_ _) | (with_reducible refine Kd.C_drewN ?_ _) | (with_reducible refine Kd.C_drew ?_))); (case side2 => exact HC2.out); rintro e w' ⟨rfl, ⟨nd, rfl⟩⟩; (try first | exact ⟨rfl, _, World.drewN_drewN _ _ _⟩ | exact ⟨rfl, _, Eq.trans (World.drewN_drewN _ _ _) (congrArg (World.drewN _) (Nat.add_assoc _ _ _))⟩)))
 repeat (go_quiet (first | (go_at_call 8; (with_reducible refine (colloquylaw10_awake.calls  t237 _ A4.out).mono ?_); rintro e w7 ⟨rfl, hb⟩; have n0_ := Aside0.mk (below_step (gw_ HB) hb); clear HB; have HB := n0_; clear n0_; (try clear hb); (try clear hb2); (try clear hk); (try clear hi)) | (go_at_call 9; (with_reducible refine (colloquylaw10_few.calls k _ _ l2 t238 _ ?side1 ?side2 A5.out).mono ?_); (case side1 => repeat (first | exact (Kd.C_below HR2.out HB.out) | (with_reducible refine Kd.C_alloc ?_ _) | (with_reducible refine Kd.C_drewN ?_ _) | (with_reducible refine Kd.C_drew ?_))); (case side2 => exact HC2.out); rintro e w' ⟨rfl, ⟨nd, rfl⟩⟩; (try first | exact ⟨rfl, _, World.drewN_drewN _ _ _⟩ | exact ⟨rfl, _, Eq.trans (World.drewN_drewN _ _ _) (congrArg (World.drewN _) (Nat.add_assoc _ _ _))⟩))); go_upto_region 3 with (first | (go_at_call 8; (with_reducible refine (colloquylaw10_awake.calls  t237 _ A4.out).mono ?_); rintro e w7 ⟨rfl, hb⟩; have n0_ := Aside0.mk (below_step (gw_ HB) hb); clear HB; have HB := n0_; clear n0_; (try clear hb); (try clear hb2); (try clear hk); (try clear hi)) | (go_at_call 9; (with_reducible refine (colloquylaw10_few.calls k _ _ l2 t238 _ ?side1 ?side2 A5.out).mono ?_); (case side1 => repeat (first | exact (Kd.C_below HR2.out HB.out) | (with_reducible refine Kd.C_alloc ?_ _) | (with_reducible refine Kd.C_drewN ?_ _) | (with_reducible refine Kd.C_drew ?_))); (case side2 => exact HC2.out); rintro e w' ⟨rfl, ⟨nd, rfl⟩⟩; (try first | exact ⟨rfl, _, World.drewN_drewN _ _ _⟩ | exact ⟨rfl, _, Eq.trans (World.drewN_drewN _ _ _) (congrArg (World.drewN _) (Nat.add_assoc _ _ _))⟩))))
 (try simp only [Act.put, List.setIfInBounds_toArray, List.set_cons_zero, List.set_cons_succ])
 go_cut [22] (fun v22 wc => ∃ (kq : Nat) (x22_5 : Bool), v22 = .bool x22_5 ∧ Aside0 (colloquylaw10_RegainFills.j0 kq a0 a1 l2 t237 x22_5 = some r) ∧ Aside0 (kq ≤ k) ∧ Aside0 (Below w.heap.size w wc))
 case first =>
  have H := HC6.out
  clear HC6
  by_cases c8 : t237 = true
  ·
   subst c8
   have H1 : (colloquylaw10_RegainFills.j0 k a0 a1 l2 true (!t238)) = some r := by rw [if_pos rfl] at H; exact H
   clear H
   have H := H1
   clear H1
   have H' := Aside0.mk H
   clear H
   go_wp2
   repeat (go_quiet (fail); try go_wp2)
   go_meet
   case rel => exact ⟨_, (!t238), (by first | rfl | (simp; done) | (simp [*]; done)), H', ⟨by first | omega | exact Nat.le_refl _⟩, ⟨gw_ HB⟩⟩
  ·
   replace c8 := Bool.eq_false_iff.mpr c8
   subst c8
   have H1 : (colloquylaw10_RegainFills.j0 k a0 a1 l2 false true) = some r := by rw [if_neg (show ¬ (false = true) by decide)] at H; exact H
   clear H
   have H := H1
   clear H1
   have H' := Aside0.mk H
   clear H
   go_wp2
   repeat (go_quiet (fail); try go_wp2)
   go_meet
   case rel => exact ⟨_, (true), (by first | rfl | (simp; done) | (simp [*]; done)), H', ⟨by first | omega | exact Nat.le_refl _⟩, ⟨gw_ HB⟩⟩
 case rest =>
  clear HC6
  try clear c2
  try clear p2
  try clear c4
  try clear c8
  obtain ⟨kq, x22_5, rfl, HA, HJ5, HB⟩ := hcut
  cases kq with
  | zero => exact absurd HA.out (by simp [colloquylaw10_RegainFills.j0])
  | succ kj5 =>
   have H := HA.out
   clear HA
   simp only [colloquylaw10_RegainFills.j0] at H
   by_cases c9 : x22_5 = true
   ·
    subst c9
    have H1 : (some t237) = some r := by rw [if_pos rfl] at H; exact H
    clear H
    have H := H1
    clear H1
    obtain rfl := Option.some.inj H
    go_wp2
    repeat (go_quiet (fail); try go_wp2)
    go_ret
    exact ⟨by first | rfl | (simp [errW_none, errW_some] <;> rfl) | (simp [*, errW_none, errW_some] <;> rfl), gw_ HB⟩
   ·
    replace c9 := Bool.eq_false_iff.mpr c9
    subst c9
    have H1 : ((regain_Decide.f a0 a1 l2).bind fun bt239 => (colloquylaw10_RegainFills.l0 kj5 a0 l2 0 false 0 bt239.1 bt239.2.1 bt239.2.2.1 bt239.2.2.2.1 bt239.2.2.2.2.1 bt239.2.2.2.2.2.1 bt239.2.2.2.2.2.2.1 bt239.2.2.2.2.2.2.2.1 bt239.2.2.2.2.2.2.2.2)) = some r := by rw [if_neg (show ¬ (false = true) by decide)] at H; exact H
    clear H
    have H := H1
    clear H1
    replace H := Option.bind_eq_some_iff.mp H
    obtain ⟨⟨t239, t240, t241, t242, t243, t244, t245, t246, t247⟩, A100, H⟩ := H
    replace H : (colloquylaw10_RegainFills.l0 kj5 a0 l2 0 false 0 t239 t240 t241 t242 t243 t244 t245 t246 t247) = some r := H
    have A10 := Aside0.mk A100
    clear A100
    have H' := Aside0.mk H
    clear H
    go_wp2_with (first | (go_at_call 10; (with_reducible refine (regain_Decide.calls a0 a1 _ _ l2 t239 t240 t241 t242 t243 t244 t245 t246 t247 _ ?side1 ?side2 A10.out).mono ?_); (case side1 => repeat (first | exact (Kd.C_below HR2.out HB.out) | (with_reducible refine Kd.C_alloc ?_ _) | (with_reducible refine Kd.C_drewN ?_ _) | (with_reducible refine Kd.C_drew ?_))); (case side2 => exact HC2.out); rintro e w11 ⟨v248, rfl, ho0, hb⟩; have n0_ := Aside0.mk (Kd.R_lower ho0 (below_size (gw_ HB))); have n1_ := Aside0.mk (below_step (gw_ HB) hb); clear HB; have HO249 := n0_; have HB := n1_; clear n0_ n1_; (try clear hb); (try clear hb2); (try clear hk); (try clear hi); (try clear ho0)) | ((with_reducible refine gate_dst (N := 9) rfl ?_); refine box_event ?hg (N := 9) ?hd (cs := #[.int .i64 0, .int .i64 0, .int .i64 0, .int .i64 0, .int .i64 0, .int .i64 0, .string (⟨#[]⟩ : ByteArray), .int .i64 0, .slice none 0 0]) (t := 37) ?hr ?_; (case hd => rfl); (case hg => rfl); (case hr => first | (go_simp; done) | (go_simp; rfl)); intro gb250 hg w12 hbox hb; have n0_ := Aside0.mk (Kd.R_below (Kd.rk HO249) hb); have s_ := step_size_ (gw_ HB) hb hg; have n1_ := Aside0.mk s_.1; have n2_ := Aside0.mk (hbox); have n3_ := Aside0.mk s_.2; clear s_; have n4_ := n3_; clear HO249; clear HB; have HO249 := n0_; have HB := n1_; have BK250 := n2_; have GW250 := n3_; have GE250 := n4_; clear n0_ n1_ n2_ n3_ n4_; clear hb hbox hg; obtain ⟨hcz13_0, hcz13_1, hcz13_2, hcz13_3, hcz13_4, hcz13_5, hcz13_6, hcz13_7, hcz13_8⟩ := blk_cells9 BK250.out; obtain ⟨hfz13_0, hfz13_1, hfz13_2, hfz13_3, hfz13_4, hfz13_5, hfz13_6, hfz13_7, hfz13_8⟩ := blk_frozens9 BK250.out; obtain ⟨Ao14, co14, eo14⟩ := Kd.R_slice HO249.out; subst eo14))
    repeat (go_quiet (first | (go_at_call 10; (with_reducible refine (regain_Decide.calls a0 a1 _ _ l2 t239 t240 t241 t242 t243 t244 t245 t246 t247 _ ?side1 ?side2 A10.out).mono ?_); (case side1 => repeat (first | exact (Kd.C_below HR2.out HB.out) | (with_reducible refine Kd.C_alloc ?_ _) | (with_reducible refine Kd.C_drewN ?_ _) | (with_reducible refine Kd.C_drew ?_))); (case side2 => exact HC2.out); rintro e w11 ⟨v248, rfl, ho0, hb⟩; have n0_ := Aside0.mk (Kd.R_lower ho0 (below_size (gw_ HB))); have n1_ := Aside0.mk (below_step (gw_ HB) hb); clear HB; have HO249 := n0_; have HB := n1_; clear n0_ n1_; (try clear hb); (try clear hb2); (try clear hk); (try clear hi); (try clear ho0)) | ((with_reducible refine gate_dst (N := 9) rfl ?_); refine box_event ?hg (N := 9) ?hd (cs := #[.int .i64 0, .int .i64 0, .int .i64 0, .int .i64 0, .int .i64 0, .int .i64 0, .string (⟨#[]⟩ : ByteArray), .int .i64 0, .slice none 0 0]) (t := 37) ?hr ?_; (case hd => rfl); (case hg => rfl); (case hr => first | (go_simp; done) | (go_simp; rfl)); intro gb250 hg w12 hbox hb; have n0_ := Aside0.mk (Kd.R_below (Kd.rk HO249) hb); have s_ := step_size_ (gw_ HB) hb hg; have n1_ := Aside0.mk s_.1; have n2_ := Aside0.mk (hbox); have n3_ := Aside0.mk s_.2; clear s_; have n4_ := n3_; clear HO249; clear HB; have HO249 := n0_; have HB := n1_; have BK250 := n2_; have GW250 := n3_; have GE250 := n4_; clear n0_ n1_ n2_ n3_ n4_; clear hb hbox hg; obtain ⟨hcz13_0, hcz13_1, hcz13_2, hcz13_3, hcz13_4, hcz13_5, hcz13_6, hcz13_7, hcz13_8⟩ := blk_cells9 BK250.out; obtain ⟨hfz13_0, hfz13_1, hfz13_2, hfz13_3, hfz13_4, hfz13_5, hfz13_6, hfz13_7, hfz13_8⟩ := blk_frozens9 BK250.out; obtain ⟨Ao14, co14, eo14⟩ := Kd.R_slice HO249.out; subst eo14)); try go_wp2_with (first | (go_at_call 10; (with_reducible refine (regain_Decide.calls a0 a1 _ _ l2 t239 t240 t241 t242 t243 t244 t245 t246 t247 _ ?side1 ?side2 A10.out).mono ?_); (case side1 => repeat (first | exact (Kd.C_below HR2.out HB.out) | (with_reducible refine Kd.C_alloc ?_ _) | (with_reducible refine Kd.C_drewN ?_ _) | (with_reducible refine Kd.C_drew ?_))); (case side2 => exact HC2.out); rintro e w11 ⟨v248, rfl, ho0, hb⟩; have n0_ := Aside0.mk (Kd.R_lower ho0 (below_size (gw_ HB))); have n1_ := Aside0.mk (below_step (gw_ HB) hb); clear HB; have HO249 := n0_; have HB := n1_; clear n0_ n1_; (try clear hb); (try clear hb2); (try clear hk); (try clear hi); (try clear ho0)) | ((with_reducible refine gate_dst (N := 9) rfl ?_); refine box_event ?hg (N := 9) ?hd (cs := #[.int .i64 0, .int .i64 0, .int .i64 0, .int .i64 0, .int .i64 0, .int .i64 0, .string (⟨#[]⟩ : ByteArray), .int .i64 0, .slice none 0 0]) (t := 37) ?hr ?_; (case hd => rfl); (case hg => rfl); (case hr => first | (go_simp; done) | (go_simp; rfl)); intro gb250 hg w12 hbox hb; have n0_ := Aside0.mk (Kd.R_below (Kd.rk HO249) hb); have s_ := step_size_ (gw_ HB) hb hg; have n1_ := Aside0.mk s_.1; have n2_ := Aside0.mk (hbox); have n3_ := Aside0.mk s_.2; clear s_; have n4_ := n3_; clear HO249; clear HB; have HO249 := n0_; have HB := n1_; have BK250 := n2_; have GW250 := n3_; have GE250 := n4_; clear n0_ n1_ n2_ n3_ n4_; clear hb hbox hg; obtain ⟨hcz13_0, hcz13_1, hcz13_2, hcz13_3, hcz13_4, hcz13_5, hcz13_6, hcz13_7, hcz13_8⟩ := blk_cells9 BK250.out; obtain ⟨hfz13_0, hfz13_1, hfz13_2, hfz13_3, hfz13_4, hfz13_5, hfz13_6, hfz13_7, hfz13_8⟩ := blk_frozens9 BK250.out; obtain ⟨Ao14, co14, eo14⟩ := Kd.R_slice HO249.out; subst eo14)))
    go_loopg [10, 11, 12] kj5 (fun kq v10 v11 v12 w' => ∃ (x10_2 : Int) (x11_2 : Bool) (x12_2 : Int), v10 = .int .i64 x10_2 ∧ v11 = .bool x11_2 ∧ v12 = .int .i64 x12_2 ∧ Aside0 (colloquylaw10_RegainFills.l0 kq a0 l2 x10_2 x11_2 x12_2 t239 t240 t241 t242 t243 t244 t245 t246 t247 = some r) ∧ Aside0 (kq ≤ kj5) ∧ Aside0 (Kd.R (Kd.int .i64) 3 w' w.heap.size (fun _ => True) (.slice Ao14 t247.length co14) t247) ∧ Aside0 (w'.heap[gb250]? = some (.cells #[.int .i64 t239, .int .i64 t240, .int .i64 t241, .int .i64 t242, .int .i64 t243, .int .i64 t244, .string t245, .int .i64 t246, (.slice Ao14 t247.length co14)] 37 (0, 0))) ∧ Aside0 (Below w.heap.size w w'))
    case atStart => exact ⟨(0), (false), (0), (by first | rfl | (simp; done) | (simp [*]; done)), (by first | rfl | (simp; done) | (simp [*]; done)), (by first | rfl | (simp; done) | (simp [*]; done)), H', ⟨Nat.le_refl _⟩, ⟨by (with_reducible repeat (first | apply Kd.R_alloc | apply Kd.R_drewN | apply Kd.R_drew)); exact Kd.R_mono (Kd.R_far9 (g := gb250) (Kd.R_types HO249.out BK250.out (by decide)) (fun _ hk => hk.2)) (fun _ hk => trivial)⟩, ⟨by (with_reducible repeat (first | refine blk_drewN ?_ _ | refine blk_drew ?_ | refine blk_alloc ?_ _)); refine blk_put9 (cs := #[.int .i64 0, .int .i64 0, .int .i64 0, .int .i64 0, .int .i64 0, .int .i64 0, .string (⟨#[]⟩ : ByteArray), .int .i64 0, .slice none 0 0]) ?_ rfl; (with_reducible repeat (first | refine blk_drewN ?_ _ | refine blk_drew ?_ | refine blk_alloc ?_ _)); exact BK250.out⟩, ⟨gw_ HB⟩⟩
    case round =>
     clear H'
     try clear c2
     try clear p2
     try clear c4
     try clear c8
     try clear c9
     try clear hcz13_0
     try clear hcz13_1
     try clear hcz13_2
     try clear hcz13_3
     try clear hcz13_4
     try clear hcz13_5
     try clear hcz13_6
     try clear hcz13_7
     try clear hcz13_8
     try clear hfz13_0
     try clear hfz13_1
     try clear hfz13_2
     try clear hfz13_3
     try clear hfz13_4
     try clear hfz13_5
     try clear hfz13_6
     try clear hfz13_7
     try clear hfz13_8
     try clear p2
     obtain ⟨x10_2, x11_2, x12_2, rfl, rfl, rfl, HA, HK2, HO_251008, BK250, HB⟩ := hrel
     cases gk with
     | zero => exact absurd HA.out (by simp [colloquylaw10_RegainFills.l0])
     | succ k2 =>
      have H := HA.out
      clear HA
      simp only [colloquylaw10_RegainFills.l0] at H
      by_cases c15 : x12_2 < (l2.length : Int)
      ·
       rw [if_pos c15] at H
       have c15b0 : decide (x12_2 < (l2.length : Int)) = true := decide_eq_true c15
       clear c15
       by_cases c16 : 0 ≤ x12_2
       ·
        rw [if_pos c16] at H
        have c16b0 : decide (0 ≤ x12_2) = true := decide_eq_true c16
        clear c16
        by_cases c17 : ((rd_T35 l2 x12_2).f1.f0) = 1
        ·
         rw [if_pos c17] at H
         have c17b0 : (((rd_T35 l2 x12_2).f1.f0) == 1) = true := beq_iff_eq.mpr c17
         have c17b1 : (((rd_T35 l2 x12_2).f1.f0) != 1) = false := bne_eq_false_iff_eq.mpr c17
         clear c17
         by_cases c18 : x11_2 = true
         ·
          subst c18
          have H1 : (colloquylaw10_RegainFills.l0 k2 a0 l2 x10_2 true (wrap64 (x12_2 + 1)) t239 t240 t241 t242 t243 t244 t245 t246 t247) = some r := by rw [if_pos rfl] at H; exact H
          clear H
          have H := H1
          clear H1
          have H' := Aside0.mk H
          clear H
          have p251 : 0 ≤ (x12_2 : Int) := of_decide_eq_true (by first | (with_reducible assumption) | assumption)
          have q251 : x12_2 < (l2.length : Int) := of_decide_eq_true (by first | (with_reducible assumption) | assumption)
          obtain ⟨ad251, A251_13, c251_13, e251, hx251_0, hx251_1, hx251_2, hx251_3, hx251_4, hx251_5, hx251_6, hx251_7, hx251_8, hx251_9, hx251_10, hx251_11, hx251_12, hx251_13, hl251_13, hi251_13⟩ := at_T35 HR2.out x12_2 p251 q251
          cases e251
          replace hx251_0 := (HB.out.cell (World.block_lt_of_cell? w _ hx251_0)).trans hx251_0
          replace hx251_1 := (HB.out.cell (World.block_lt_of_cell? w _ hx251_1)).trans hx251_1
          replace hx251_2 := (HB.out.cell (World.block_lt_of_cell? w _ hx251_2)).trans hx251_2
          replace hx251_3 := (HB.out.cell (World.block_lt_of_cell? w _ hx251_3)).trans hx251_3
          replace hx251_4 := (HB.out.cell (World.block_lt_of_cell? w _ hx251_4)).trans hx251_4
          replace hx251_5 := (HB.out.cell (World.block_lt_of_cell? w _ hx251_5)).trans hx251_5
          replace hx251_6 := (HB.out.cell (World.block_lt_of_cell? w _ hx251_6)).trans hx251_6
          replace hx251_7 := (HB.out.cell (World.block_lt_of_cell? w _ hx251_7)).trans hx251_7
          replace hx251_8 := (HB.out.cell (World.block_lt_of_cell? w _ hx251_8)).trans hx251_8
          replace hx251_9 := (HB.out.cell (World.block_lt_of_cell? w _ hx251_9)).trans hx251_9
          replace hx251_10 := (HB.out.cell (World.block_lt_of_cell? w _ hx251_10)).trans hx251_10
          replace hx251_11 := (HB.out.cell (World.block_lt_of_cell? w _ hx251_11)).trans hx251_11
          replace hx251_12 := (HB.out.cell (World.block_lt_of_cell? w _ hx251_12)).trans hx251_12
          replace hx251_13 := (HB.out.cell (World.block_lt_of_cell? w _ hx251_13)).trans hx251_13
          have HR251_13 := Aside0.mk hi251_13
          have HC251_13 := Aside0.mk hl251_13
          clear hi251_13 hl251_13
          replace p251 := eq_true p251
          replace q251 := eq_true q251
          go_wp2
          repeat (go_quiet (fail); try go_wp2)
          go_roundg k2
          case measure => have := HJ5.out; have := HK2.out; omega
          case rel => exact ⟨(x10_2), (true), (wrap64 (x12_2 + 1)), (by first | rfl | (simp; done) | (simp [*]; done)), (by first | rfl | (simp; done) | (simp [*]; done)), (by first | rfl | (simp; done) | (simp [*]; done)), H', ⟨by have := HJ5.out; have := HK2.out; omega⟩, ⟨by (with_reducible repeat (first | apply Kd.R_alloc | apply Kd.R_drewN | apply Kd.R_drew)); exact HO_251008.out⟩, ⟨by (with_reducible repeat (first | refine blk_drewN ?_ _ | refine blk_drew ?_ | refine blk_alloc ?_ _)); exact BK250.out⟩, ⟨gw_ HB⟩⟩
         ·
          replace c18 := Bool.eq_false_iff.mpr c18
          subst c18
          have H1 : (colloquylaw10_RegainFills.l0 k2 a0 l2 x10_2 (((rd_T35 l2 x12_2).f1.f3.f0) == t240 && (((rd_T35 l2 x12_2).f1.f3.f1) == t241 && (((rd_T35 l2 x12_2).f1.f3.f2) == t242 && (((rd_T35 l2 x12_2).f1.f3.f3) == t243 && (((rd_T35 l2 x12_2).f1.f3.f4) == t244 && ((((rd_T35 l2 x12_2).f1.f3.f5).toList) == t245.toList)))))) (wrap64 (x12_2 + 1)) t239 t240 t241 t242 t243 t244 t245 t246 t247) = some r := by rw [if_neg (show ¬ (false = true) by decide)] at H; exact H
          clear H
          have H := H1
          clear H1
          have H' := Aside0.mk H
          clear H
          have p251 : 0 ≤ (x12_2 : Int) := of_decide_eq_true (by first | (with_reducible assumption) | assumption)
          have q251 : x12_2 < (l2.length : Int) := of_decide_eq_true (by first | (with_reducible assumption) | assumption)
          obtain ⟨ad251, A251_13, c251_13, e251, hx251_0, hx251_1, hx251_2, hx251_3, hx251_4, hx251_5, hx251_6, hx251_7, hx251_8, hx251_9, hx251_10, hx251_11, hx251_12, hx251_13, hl251_13, hi251_13⟩ := at_T35 HR2.out x12_2 p251 q251
          cases e251
          replace hx251_0 := (HB.out.cell (World.block_lt_of_cell? w _ hx251_0)).trans hx251_0
          replace hx251_1 := (HB.out.cell (World.block_lt_of_cell? w _ hx251_1)).trans hx251_1
          replace hx251_2 := (HB.out.cell (World.block_lt_of_cell? w _ hx251_2)).trans hx251_2
          replace hx251_3 := (HB.out.cell (World.block_lt_of_cell? w _ hx251_3)).trans hx251_3
          replace hx251_4 := (HB.out.cell (World.block_lt_of_cell? w _ hx251_4)).trans hx251_4
          replace hx251_5 := (HB.out.cell (World.block_lt_of_cell? w _ hx251_5)).trans hx251_5
          replace hx251_6 := (HB.out.cell (World.block_lt_of_cell? w _ hx251_6)).trans hx251_6
          replace hx251_7 := (HB.out.cell (World.block_lt_of_cell? w _ hx251_7)).trans hx251_7
          replace hx251_8 := (HB.out.cell (World.block_lt_of_cell? w _ hx251_8)).trans hx251_8
          replace hx251_9 := (HB.out.cell (World.block_lt_of_cell? w _ hx251_9)).trans hx251_9
          replace hx251_10 := (HB.out.cell (World.block_lt_of_cell? w _ hx251_10)).trans hx251_10
          replace hx251_11 := (HB.out.cell (World.block_lt_of_cell? w _ hx251_11)).trans hx251_11
          replace hx251_12 := (HB.out.cell (World.block_lt_of_cell? w _ hx251_12)).trans hx251_12
          replace hx251_13 := (HB.out.cell (World.block_lt_of_cell? w _ hx251_13)).trans hx251_13
          have HR251_13 := Aside0.mk hi251_13
          have HC251_13 := Aside0.mk hl251_13
          clear hi251_13 hl251_13
          replace p251 := eq_true p251
          replace q251 := eq_true q251
          have p252 : 0 ≤ (x12_2 : Int) := of_decide_eq_true (by first | (with_reducible assumption) | assumption)
          have q252 : x12_2 < (l2.length : Int) := of_decide_eq_true (by first | (with_reducible assumption) | assumption)
          obtain ⟨ad252, A252_13, c252_13, e252, hx252_0, hx252_1, hx252_2, hx252_3, hx252_4, hx252_5, hx252_6, hx252_7, hx252_8, hx252_9, hx252_10, hx252_11, hx252_12, hx252_13, hl252_13, hi252_13⟩ := at_T35 HR2.out x12_2 p252 q252
          obtain rfl : ad251 = ad252 := (by injection e252)
          replace hx252_0 := (HB.out.cell (World.block_lt_of_cell? w _ hx252_0)).trans hx252_0
          replace hx252_1 := (HB.out.cell (World.block_lt_of_cell? w _ hx252_1)).trans hx252_1
          replace hx252_2 := (HB.out.cell (World.block_lt_of_cell? w _ hx252_2)).trans hx252_2
          replace hx252_3 := (HB.out.cell (World.block_lt_of_cell? w _ hx252_3)).trans hx252_3
          replace hx252_4 := (HB.out.cell (World.block_lt_of_cell? w _ hx252_4)).trans hx252_4
          replace hx252_5 := (HB.out.cell (World.block_lt_of_cell? w _ hx252_5)).trans hx252_5
          replace hx252_6 := (HB.out.cell (World.block_lt_of_cell? w _ hx252_6)).trans hx252_6
          replace hx252_7 := (HB.out.cell (World.block_lt_of_cell? w _ hx252_7)).trans hx252_7
          replace hx252_8 := (HB.out.cell (World.block_lt_of_cell? w _ hx252_8)).trans hx252_8
          replace hx252_9 := (HB.out.cell (World.block_lt_of_cell? w _ hx252_9)).trans hx252_9
          replace hx252_10 := (HB.out.cell (World.block_lt_of_cell? w _ hx252_10)).trans hx252_10
          replace hx252_11 := (HB.out.cell (World.block_lt_of_cell? w _ hx252_11)).trans hx252_11
          replace hx252_12 := (HB.out.cell (World.block_lt_of_cell? w _ hx252_12)).trans hx252_12
          replace hx252_13 := (HB.out.cell (World.block_lt_of_cell? w _ hx252_13)).trans hx252_13
          have HR252_13 := Aside0.mk hi252_13
          have HC252_13 := Aside0.mk hl252_13
          clear hi252_13 hl252_13
          replace p252 := eq_true p252
          replace q252 := eq_true q252
          have ea_ := Option.some.inj (hx251_13.symm.trans hx252_13)
          injection ea_ with ea_ en_ ec_
          subst ea_
          subst ec_
          clear en_
          obtain ⟨hcz19_0, hcz19_1, hcz19_2, hcz19_3, hcz19_4, hcz19_5, hcz19_6, hcz19_7, hcz19_8⟩ := blk_cells9 BK250.out
          obtain ⟨hfz19_0, hfz19_1, hfz19_2, hfz19_3, hfz19_4, hfz19_5, hfz19_6, hfz19_7, hfz19_8⟩ := blk_frozens9 BK250.out
          go_wp2
          repeat (go_quiet (fail); try go_wp2)
          go_roundg k2
          case measure => have := HJ5.out; have := HK2.out; omega
          case rel => exact ⟨(x10_2), ((((rd_T35 l2 x12_2).f1.f3.f0) == t240 && (((rd_T35 l2 x12_2).f1.f3.f1) == t241 && (((rd_T35 l2 x12_2).f1.f3.f2) == t242 && (((rd_T35 l2 x12_2).f1.f3.f3) == t243 && (((rd_T35 l2 x12_2).f1.f3.f4) == t244 && ((((rd_T35 l2 x12_2).f1.f3.f5).toList) == t245.toList))))))), (wrap64 (x12_2 + 1)), (by first | rfl | (simp; done) | (simp [*]; done)), (by first | rfl | (simp; done) | (simp [*]; done)), (by first | rfl | (simp; done) | (simp [*]; done)), H', ⟨by have := HJ5.out; have := HK2.out; omega⟩, ⟨by (with_reducible repeat (first | apply Kd.R_alloc | apply Kd.R_drewN | apply Kd.R_drew)); exact HO_251008.out⟩, ⟨by (with_reducible repeat (first | refine blk_drewN ?_ _ | refine blk_drew ?_ | refine blk_alloc ?_ _)); exact BK250.out⟩, ⟨gw_ HB⟩⟩
        ·
         rw [if_neg c17] at H
         have c17b0 : (((rd_T35 l2 x12_2).f1.f0) == 1) = false := beq_eq_false_iff_ne.mpr c17
         have c17b1 : (((rd_T35 l2 x12_2).f1.f0) != 1) = true := bne_iff_ne.mpr c17
         by_cases c20 : ((rd_T35 l2 x12_2).f1.f0) = 2
         ·
          rw [if_pos c20] at H
          have c20b0 : (((rd_T35 l2 x12_2).f1.f0) == 2) = true := beq_iff_eq.mpr c20
          have c20b1 : (((rd_T35 l2 x12_2).f1.f0) != 2) = false := bne_eq_false_iff_eq.mpr c20
          clear c20
          by_cases c21 : x11_2 = true
          ·
           subst c21
           have H1 : (colloquylaw10_RegainFills.l0 k2 a0 l2 x10_2 true (wrap64 (x12_2 + 1)) t239 t240 t241 t242 t243 t244 t245 t246 t247) = some r := by rw [if_pos rfl] at H; exact H
           clear H
           have H := H1
           clear H1
           have H' := Aside0.mk H
           clear H
           have p251 : 0 ≤ (x12_2 : Int) := of_decide_eq_true (by first | (with_reducible assumption) | assumption)
           have q251 : x12_2 < (l2.length : Int) := of_decide_eq_true (by first | (with_reducible assumption) | assumption)
           obtain ⟨ad251, A251_13, c251_13, e251, hx251_0, hx251_1, hx251_2, hx251_3, hx251_4, hx251_5, hx251_6, hx251_7, hx251_8, hx251_9, hx251_10, hx251_11, hx251_12, hx251_13, hl251_13, hi251_13⟩ := at_T35 HR2.out x12_2 p251 q251
           cases e251
           replace hx251_0 := (HB.out.cell (World.block_lt_of_cell? w _ hx251_0)).trans hx251_0
           replace hx251_1 := (HB.out.cell (World.block_lt_of_cell? w _ hx251_1)).trans hx251_1
           replace hx251_2 := (HB.out.cell (World.block_lt_of_cell? w _ hx251_2)).trans hx251_2
           replace hx251_3 := (HB.out.cell (World.block_lt_of_cell? w _ hx251_3)).trans hx251_3
           replace hx251_4 := (HB.out.cell (World.block_lt_of_cell? w _ hx251_4)).trans hx251_4
           replace hx251_5 := (HB.out.cell (World.block_lt_of_cell? w _ hx251_5)).trans hx251_5
           replace hx251_6 := (HB.out.cell (World.block_lt_of_cell? w _ hx251_6)).trans hx251_6
           replace hx251_7 := (HB.out.cell (World.block_lt_of_cell? w _ hx251_7)).trans hx251_7
           replace hx251_8 := (HB.out.cell (World.block_lt_of_cell? w _ hx251_8)).trans hx251_8
           replace hx251_9 := (HB.out.cell (World.block_lt_of_cell? w _ hx251_9)).trans hx251_9
           replace hx251_10 := (HB.out.cell (World.block_lt_of_cell? w _ hx251_10)).trans hx251_10
           replace hx251_11 := (HB.out.cell (World.block_lt_of_cell? w _ hx251_11)).trans hx251_11
           replace hx251_12 := (HB.out.cell (World.block_lt_of_cell? w _ hx251_12)).trans hx251_12
           replace hx251_13 := (HB.out.cell (World.block_lt_of_cell? w _ hx251_13)).trans hx251_13
           have HR251_13 := Aside0.mk hi251_13
           have HC251_13 := Aside0.mk hl251_13
           clear hi251_13 hl251_13
           replace p251 := eq_true p251
           replace q251 := eq_true q251
           go_wp2
           repeat (go_quiet (fail); try go_wp2)
           go_roundg k2
           case measure => have := HJ5.out; have := HK2.out; omega
           case rel => exact ⟨(x10_2), (true), (wrap64 (x12_2 + 1)), (by first | rfl | (simp; done) | (simp [*]; done)), (by first | rfl | (simp; done) | (simp [*]; done)), (by first | rfl | (simp; done) | (simp [*]; done)), H', ⟨by have := HJ5.out; have := HK2.out; omega⟩, ⟨by (with_reducible repeat (first | apply Kd.R_alloc | apply Kd.R_drewN | apply Kd.R_drew)); exact HO_251008.out⟩, ⟨by (with_reducible repeat (first | refine blk_drewN ?_ _ | refine blk_drew ?_ | refine blk_alloc ?_ _)); exact BK250.out⟩, ⟨gw_ HB⟩⟩
          ·
           replace c21 := Bool.eq_false_iff.mpr c21
           subst c21
           have H1 : (colloquylaw10_RegainFills.l0 k2 a0 l2 x10_2 (((rd_T35 l2 x12_2).f1.f3.f0) == t240 && (((rd_T35 l2 x12_2).f1.f3.f1) == t241 && (((rd_T35 l2 x12_2).f1.f3.f2) == t242 && (((rd_T35 l2 x12_2).f1.f3.f3) == t243 && (((rd_T35 l2 x12_2).f1.f3.f4) == t244 && ((((rd_T35 l2 x12_2).f1.f3.f5).toList) == t245.toList)))))) (wrap64 (x12_2 + 1)) t239 t240 t241 t242 t243 t244 t245 t246 t247) = some r := by rw [if_neg (show ¬ (false = true) by decide)] at H; exact H
           clear H
           have H := H1
           clear H1
           have H' := Aside0.mk H
           clear H
           have p251 : 0 ≤ (x12_2 : Int) := of_decide_eq_true (by first | (with_reducible assumption) | assumption)
           have q251 : x12_2 < (l2.length : Int) := of_decide_eq_true (by first | (with_reducible assumption) | assumption)
           obtain ⟨ad251, A251_13, c251_13, e251, hx251_0, hx251_1, hx251_2, hx251_3, hx251_4, hx251_5, hx251_6, hx251_7, hx251_8, hx251_9, hx251_10, hx251_11, hx251_12, hx251_13, hl251_13, hi251_13⟩ := at_T35 HR2.out x12_2 p251 q251
           cases e251
           replace hx251_0 := (HB.out.cell (World.block_lt_of_cell? w _ hx251_0)).trans hx251_0
           replace hx251_1 := (HB.out.cell (World.block_lt_of_cell? w _ hx251_1)).trans hx251_1
           replace hx251_2 := (HB.out.cell (World.block_lt_of_cell? w _ hx251_2)).trans hx251_2
           replace hx251_3 := (HB.out.cell (World.block_lt_of_cell? w _ hx251_3)).trans hx251_3
           replace hx251_4 := (HB.out.cell (World.block_lt_of_cell? w _ hx251_4)).trans hx251_4
           replace hx251_5 := (HB.out.cell (World.block_lt_of_cell? w _ hx251_5)).trans hx251_5
           replace hx251_6 := (HB.out.cell (World.block_lt_of_cell? w _ hx251_6)).trans hx251_6
           replace hx251_7 := (HB.out.cell (World.block_lt_of_cell? w _ hx251_7)).trans hx251_7
           replace hx251_8 := (HB.out.cell (World.block_lt_of_cell? w _ hx251_8)).trans hx251_8
           replace hx251_9 := (HB.out.cell (World.block_lt_of_cell? w _ hx251_9)).trans hx251_9
           replace hx251_10 := (HB.out.cell (World.block_lt_of_cell? w _ hx251_10)).trans hx251_10
           replace hx251_11 := (HB.out.cell (World.block_lt_of_cell? w _ hx251_11)).trans hx251_11
           replace hx251_12 := (HB.out.cell (World.block_lt_of_cell? w _ hx251_12)).trans hx251_12
           replace hx251_13 := (HB.out.cell (World.block_lt_of_cell? w _ hx251_13)).trans hx251_13
           have HR251_13 := Aside0.mk hi251_13
           have HC251_13 := Aside0.mk hl251_13
           clear hi251_13 hl251_13
           replace p251 := eq_true p251
           replace q251 := eq_true q251
           have p253 : 0 ≤ (x12_2 : Int) := of_decide_eq_true (by first | (with_reducible assumption) | assumption)
           have q253 : x12_2 < (l2.length : Int) := of_decide_eq_true (by first | (with_reducible assumption) | assumption)
           obtain ⟨ad253, A253_13, c253_13, e253, hx253_0, hx253_1, hx253_2, hx253_3, hx253_4, hx253_5, hx253_6, hx253_7, hx253_8, hx253_9, hx253_10, hx253_11, hx253_12, hx253_13, hl253_13, hi253_13⟩ := at_T35 HR2.out x12_2 p253 q253
           obtain rfl : ad251 = ad253 := (by injection e253)
           replace hx253_0 := (HB.out.cell (World.block_lt_of_cell? w _ hx253_0)).trans hx253_0
           replace hx253_1 := (HB.out.cell (World.block_lt_of_cell? w _ hx253_1)).trans hx253_1
           replace hx253_2 := (HB.out.cell (World.block_lt_of_cell? w _ hx253_2)).trans hx253_2
           replace hx253_3 := (HB.out.cell (World.block_lt_of_cell? w _ hx253_3)).trans hx253_3
           replace hx253_4 := (HB.out.cell (World.block_lt_of_cell? w _ hx253_4)).trans hx253_4
           replace hx253_5 := (HB.out.cell (World.block_lt_of_cell? w _ hx253_5)).trans hx253_5
           replace hx253_6 := (HB.out.cell (World.block_lt_of_cell? w _ hx253_6)).trans hx253_6
           replace hx253_7 := (HB.out.cell (World.block_lt_of_cell? w _ hx253_7)).trans hx253_7
           replace hx253_8 := (HB.out.cell (World.block_lt_of_cell? w _ hx253_8)).trans hx253_8
           replace hx253_9 := (HB.out.cell (World.block_lt_of_cell? w _ hx253_9)).trans hx253_9
           replace hx253_10 := (HB.out.cell (World.block_lt_of_cell? w _ hx253_10)).trans hx253_10
           replace hx253_11 := (HB.out.cell (World.block_lt_of_cell? w _ hx253_11)).trans hx253_11
           replace hx253_12 := (HB.out.cell (World.block_lt_of_cell? w _ hx253_12)).trans hx253_12
           replace hx253_13 := (HB.out.cell (World.block_lt_of_cell? w _ hx253_13)).trans hx253_13
           have HR253_13 := Aside0.mk hi253_13
           have HC253_13 := Aside0.mk hl253_13
           clear hi253_13 hl253_13
           replace p253 := eq_true p253
           replace q253 := eq_true q253
           have ea_ := Option.some.inj (hx251_13.symm.trans hx253_13)
           injection ea_ with ea_ en_ ec_
           subst ea_
           subst ec_
           clear en_
           obtain ⟨hcz22_0, hcz22_1, hcz22_2, hcz22_3, hcz22_4, hcz22_5, hcz22_6, hcz22_7, hcz22_8⟩ := blk_cells9 BK250.out
           obtain ⟨hfz22_0, hfz22_1, hfz22_2, hfz22_3, hfz22_4, hfz22_5, hfz22_6, hfz22_7, hfz22_8⟩ := blk_frozens9 BK250.out
           go_wp2
           repeat (go_quiet (fail); try go_wp2)
           go_roundg k2
           case measure => have := HJ5.out; have := HK2.out; omega
           case rel => exact ⟨(x10_2), ((((rd_T35 l2 x12_2).f1.f3.f0) == t240 && (((rd_T35 l2 x12_2).f1.f3.f1) == t241 && (((rd_T35 l2 x12_2).f1.f3.f2) == t242 && (((rd_T35 l2 x12_2).f1.f3.f3) == t243 && (((rd_T35 l2 x12_2).f1.f3.f4) == t244 && ((((rd_T35 l2 x12_2).f1.f3.f5).toList) == t245.toList))))))), (wrap64 (x12_2 + 1)), (by first | rfl | (simp; done) | (simp [*]; done)), (by first | rfl | (simp; done) | (simp [*]; done)), (by first | rfl | (simp; done) | (simp [*]; done)), H', ⟨by have := HJ5.out; have := HK2.out; omega⟩, ⟨by (with_reducible repeat (first | apply Kd.R_alloc | apply Kd.R_drewN | apply Kd.R_drew)); exact HO_251008.out⟩, ⟨by (with_reducible repeat (first | refine blk_drewN ?_ _ | refine blk_drew ?_ | refine blk_alloc ?_ _)); exact BK250.out⟩, ⟨gw_ HB⟩⟩
         ·
          rw [if_neg c20] at H
          have c20b0 : (((rd_T35 l2 x12_2).f1.f0) == 2) = false := beq_eq_false_iff_ne.mpr c20
          have c20b1 : (((rd_T35 l2 x12_2).f1.f0) != 2) = true := bne_iff_ne.mpr c20
          by_cases c23 : ((rd_T35 l2 x12_2).f1.f0) = 3
          ·
           rw [if_pos c23] at H
           have c23b0 : (((rd_T35 l2 x12_2).f1.f0) == 3) = true := beq_iff_eq.mpr c23
           have c23b1 : (((rd_T35 l2 x12_2).f1.f0) != 3) = false := bne_eq_false_iff_eq.mpr c23
           clear c23
           by_cases c24 : x11_2 = true
           ·
            subst c24
            have H1 : (colloquylaw10_RegainFills.l0 k2 a0 l2 x10_2 true (wrap64 (x12_2 + 1)) t239 t240 t241 t242 t243 t244 t245 t246 t247) = some r := by rw [if_pos rfl] at H; exact H
            clear H
            have H := H1
            clear H1
            have H' := Aside0.mk H
            clear H
            have p251 : 0 ≤ (x12_2 : Int) := of_decide_eq_true (by first | (with_reducible assumption) | assumption)
            have q251 : x12_2 < (l2.length : Int) := of_decide_eq_true (by first | (with_reducible assumption) | assumption)
            obtain ⟨ad251, A251_13, c251_13, e251, hx251_0, hx251_1, hx251_2, hx251_3, hx251_4, hx251_5, hx251_6, hx251_7, hx251_8, hx251_9, hx251_10, hx251_11, hx251_12, hx251_13, hl251_13, hi251_13⟩ := at_T35 HR2.out x12_2 p251 q251
            cases e251
            replace hx251_0 := (HB.out.cell (World.block_lt_of_cell? w _ hx251_0)).trans hx251_0
            replace hx251_1 := (HB.out.cell (World.block_lt_of_cell? w _ hx251_1)).trans hx251_1
            replace hx251_2 := (HB.out.cell (World.block_lt_of_cell? w _ hx251_2)).trans hx251_2
            replace hx251_3 := (HB.out.cell (World.block_lt_of_cell? w _ hx251_3)).trans hx251_3
            replace hx251_4 := (HB.out.cell (World.block_lt_of_cell? w _ hx251_4)).trans hx251_4
            replace hx251_5 := (HB.out.cell (World.block_lt_of_cell? w _ hx251_5)).trans hx251_5
            replace hx251_6 := (HB.out.cell (World.block_lt_of_cell? w _ hx251_6)).trans hx251_6
            replace hx251_7 := (HB.out.cell (World.block_lt_of_cell? w _ hx251_7)).trans hx251_7
            replace hx251_8 := (HB.out.cell (World.block_lt_of_cell? w _ hx251_8)).trans hx251_8
            replace hx251_9 := (HB.out.cell (World.block_lt_of_cell? w _ hx251_9)).trans hx251_9
            replace hx251_10 := (HB.out.cell (World.block_lt_of_cell? w _ hx251_10)).trans hx251_10
            replace hx251_11 := (HB.out.cell (World.block_lt_of_cell? w _ hx251_11)).trans hx251_11
            replace hx251_12 := (HB.out.cell (World.block_lt_of_cell? w _ hx251_12)).trans hx251_12
            replace hx251_13 := (HB.out.cell (World.block_lt_of_cell? w _ hx251_13)).trans hx251_13
            have HR251_13 := Aside0.mk hi251_13
            have HC251_13 := Aside0.mk hl251_13
            clear hi251_13 hl251_13
            replace p251 := eq_true p251
            replace q251 := eq_true q251
            go_wp2
            repeat (go_quiet (fail); try go_wp2)
            go_roundg k2
            case measure => have := HJ5.out; have := HK2.out; omega
            case rel => exact ⟨(x10_2), (true), (wrap64 (x12_2 + 1)), (by first | rfl | (simp; done) | (simp [*]; done)), (by first | rfl | (simp; done) | (simp [*]; done)), (by first | rfl | (simp; done) | (simp [*]; done)), H', ⟨by have := HJ5.out; have := HK2.out; omega⟩, ⟨by (with_reducible repeat (first | apply Kd.R_alloc | apply Kd.R_drewN | apply Kd.R_drew)); exact HO_251008.out⟩, ⟨by (with_reducible repeat (first | refine blk_drewN ?_ _ | refine blk_drew ?_ | refine blk_alloc ?_ _)); exact BK250.out⟩, ⟨gw_ HB⟩⟩
           ·
            replace c24 := Bool.eq_false_iff.mpr c24
            subst c24
            have H1 : (colloquylaw10_RegainFills.l0 k2 a0 l2 x10_2 (((rd_T35 l2 x12_2).f1.f3.f0) == t240 && (((rd_T35 l2 x12_2).f1.f3.f1) == t241 && (((rd_T35 l2 x12_2).f1.f3.f2) == t242 && (((rd_T35 l2 x12_2).f1.f3.f3) == t243 && (((rd_T35 l2 x12_2).f1.f3.f4) == t244 && ((((rd_T35 l2 x12_2).f1.f3.f5).toList) == t245.toList)))))) (wrap64 (x12_2 + 1)) t239 t240 t241 t242 t243 t244 t245 t246 t247) = some r := by rw [if_neg (show ¬ (false = true) by decide)] at H; exact H
            clear H
            have H := H1
            clear H1
            have H' := Aside0.mk H
            clear H
            have p251 : 0 ≤ (x12_2 : Int) := of_decide_eq_true (by first | (with_reducible assumption) | assumption)
            have q251 : x12_2 < (l2.length : Int) := of_decide_eq_true (by first | (with_reducible assumption) | assumption)
            obtain ⟨ad251, A251_13, c251_13, e251, hx251_0, hx251_1, hx251_2, hx251_3, hx251_4, hx251_5, hx251_6, hx251_7, hx251_8, hx251_9, hx251_10, hx251_11, hx251_12, hx251_13, hl251_13, hi251_13⟩ := at_T35 HR2.out x12_2 p251 q251
            cases e251
            replace hx251_0 := (HB.out.cell (World.block_lt_of_cell? w _ hx251_0)).trans hx251_0
            replace hx251_1 := (HB.out.cell (World.block_lt_of_cell? w _ hx251_1)).trans hx251_1
            replace hx251_2 := (HB.out.cell (World.block_lt_of_cell? w _ hx251_2)).trans hx251_2
            replace hx251_3 := (HB.out.cell (World.block_lt_of_cell? w _ hx251_3)).trans hx251_3
            replace hx251_4 := (HB.out.cell (World.block_lt_of_cell? w _ hx251_4)).trans hx251_4
            replace hx251_5 := (HB.out.cell (World.block_lt_of_cell? w _ hx251_5)).trans hx251_5
            replace hx251_6 := (HB.out.cell (World.block_lt_of_cell? w _ hx251_6)).trans hx251_6
            replace hx251_7 := (HB.out.cell (World.block_lt_of_cell? w _ hx251_7)).trans hx251_7
            replace hx251_8 := (HB.out.cell (World.block_lt_of_cell? w _ hx251_8)).trans hx251_8
            replace hx251_9 := (HB.out.cell (World.block_lt_of_cell? w _ hx251_9)).trans hx251_9
            replace hx251_10 := (HB.out.cell (World.block_lt_of_cell? w _ hx251_10)).trans hx251_10
            replace hx251_11 := (HB.out.cell (World.block_lt_of_cell? w _ hx251_11)).trans hx251_11
            replace hx251_12 := (HB.out.cell (World.block_lt_of_cell? w _ hx251_12)).trans hx251_12
            replace hx251_13 := (HB.out.cell (World.block_lt_of_cell? w _ hx251_13)).trans hx251_13
            have HR251_13 := Aside0.mk hi251_13
            have HC251_13 := Aside0.mk hl251_13
            clear hi251_13 hl251_13
            replace p251 := eq_true p251
            replace q251 := eq_true q251
            have p254 : 0 ≤ (x12_2 : Int) := of_decide_eq_true (by first | (with_reducible assumption) | assumption)
            have q254 : x12_2 < (l2.length : Int) := of_decide_eq_true (by first | (with_reducible assumption) | assumption)
            obtain ⟨ad254, A254_13, c254_13, e254, hx254_0, hx254_1, hx254_2, hx254_3, hx254_4, hx254_5, hx254_6, hx254_7, hx254_8, hx254_9, hx254_10, hx254_11, hx254_12, hx254_13, hl254_13, hi254_13⟩ := at_T35 HR2.out x12_2 p254 q254
            obtain rfl : ad251 = ad254 := (by injection e254)
            replace hx254_0 := (HB.out.cell (World.block_lt_of_cell? w _ hx254_0)).trans hx254_0
            replace hx254_1 := (HB.out.cell (World.block_lt_of_cell? w _ hx254_1)).trans hx254_1
            replace hx254_2 := (HB.out.cell (World.block_lt_of_cell? w _ hx254_2)).trans hx254_2
            replace hx254_3 := (HB.out.cell (World.block_lt_of_cell? w _ hx254_3)).trans hx254_3
            replace hx254_4 := (HB.out.cell (World.block_lt_of_cell? w _ hx254_4)).trans hx254_4
            replace hx254_5 := (HB.out.cell (World.block_lt_of_cell? w _ hx254_5)).trans hx254_5
            replace hx254_6 := (HB.out.cell (World.block_lt_of_cell? w _ hx254_6)).trans hx254_6
            replace hx254_7 := (HB.out.cell (World.block_lt_of_cell? w _ hx254_7)).trans hx254_7
            replace hx254_8 := (HB.out.cell (World.block_lt_of_cell? w _ hx254_8)).trans hx254_8
            replace hx254_9 := (HB.out.cell (World.block_lt_of_cell? w _ hx254_9)).trans hx254_9
            replace hx254_10 := (HB.out.cell (World.block_lt_of_cell? w _ hx254_10)).trans hx254_10
            replace hx254_11 := (HB.out.cell (World.block_lt_of_cell? w _ hx254_11)).trans hx254_11
            replace hx254_12 := (HB.out.cell (World.block_lt_of_cell? w _ hx254_12)).trans hx254_12
            replace hx254_13 := (HB.out.cell (World.block_lt_of_cell? w _ hx254_13)).trans hx254_13
            have HR254_13 := Aside0.mk hi254_13
            have HC254_13 := Aside0.mk hl254_13
            clear hi254_13 hl254_13
            replace p254 := eq_true p254
            replace q254 := eq_true q254
            have ea_ := Option.some.inj (hx251_13.symm.trans hx254_13)
            injection ea_ with ea_ en_ ec_
            subst ea_
            subst ec_
            clear en_
            obtain ⟨hcz25_0, hcz25_1, hcz25_2, hcz25_3, hcz25_4, hcz25_5, hcz25_6, hcz25_7, hcz25_8⟩ := blk_cells9 BK250.out
            obtain ⟨hfz25_0, hfz25_1, hfz25_2, hfz25_3, hfz25_4, hfz25_5, hfz25_6, hfz25_7, hfz25_8⟩ := blk_frozens9 BK250.out
            go_wp2
            repeat (go_quiet (fail); try go_wp2)
            go_roundg k2
            case measure => have := HJ5.out; have := HK2.out; omega
            case rel => exact ⟨(x10_2), ((((rd_T35 l2 x12_2).f1.f3.f0) == t240 && (((rd_T35 l2 x12_2).f1.f3.f1) == t241 && (((rd_T35 l2 x12_2).f1.f3.f2) == t242 && (((rd_T35 l2 x12_2).f1.f3.f3) == t243 && (((rd_T35 l2 x12_2).f1.f3.f4) == t244 && ((((rd_T35 l2 x12_2).f1.f3.f5).toList) == t245.toList))))))), (wrap64 (x12_2 + 1)), (by first | rfl | (simp; done) | (simp [*]; done)), (by first | rfl | (simp; done) | (simp [*]; done)), (by first | rfl | (simp; done) | (simp [*]; done)), H', ⟨by have := HJ5.out; have := HK2.out; omega⟩, ⟨by (with_reducible repeat (first | apply Kd.R_alloc | apply Kd.R_drewN | apply Kd.R_drew)); exact HO_251008.out⟩, ⟨by (with_reducible repeat (first | refine blk_drewN ?_ _ | refine blk_drew ?_ | refine blk_alloc ?_ _)); exact BK250.out⟩, ⟨gw_ HB⟩⟩
          ·
           rw [if_neg c23] at H
           have c23b0 : (((rd_T35 l2 x12_2).f1.f0) == 3) = false := beq_eq_false_iff_ne.mpr c23
           have c23b1 : (((rd_T35 l2 x12_2).f1.f0) != 3) = true := bne_iff_ne.mpr c23
           have H' := Aside0.mk H
           clear H
           have p251 : 0 ≤ (x12_2 : Int) := of_decide_eq_true (by first | (with_reducible assumption) | assumption)
           have q251 : x12_2 < (l2.length : Int) := of_decide_eq_true (by first | (with_reducible assumption) | assumption)
           obtain ⟨ad251, A251_13, c251_13, e251, hx251_0, hx251_1, hx251_2, hx251_3, hx251_4, hx251_5, hx251_6, hx251_7, hx251_8, hx251_9, hx251_10, hx251_11, hx251_12, hx251_13, hl251_13, hi251_13⟩ := at_T35 HR2.out x12_2 p251 q251
           cases e251
           replace hx251_0 := (HB.out.cell (World.block_lt_of_cell? w _ hx251_0)).trans hx251_0
           replace hx251_1 := (HB.out.cell (World.block_lt_of_cell? w _ hx251_1)).trans hx251_1
           replace hx251_2 := (HB.out.cell (World.block_lt_of_cell? w _ hx251_2)).trans hx251_2
           replace hx251_3 := (HB.out.cell (World.block_lt_of_cell? w _ hx251_3)).trans hx251_3
           replace hx251_4 := (HB.out.cell (World.block_lt_of_cell? w _ hx251_4)).trans hx251_4
           replace hx251_5 := (HB.out.cell (World.block_lt_of_cell? w _ hx251_5)).trans hx251_5
           replace hx251_6 := (HB.out.cell (World.block_lt_of_cell? w _ hx251_6)).trans hx251_6
           replace hx251_7 := (HB.out.cell (World.block_lt_of_cell? w _ hx251_7)).trans hx251_7
           replace hx251_8 := (HB.out.cell (World.block_lt_of_cell? w _ hx251_8)).trans hx251_8
           replace hx251_9 := (HB.out.cell (World.block_lt_of_cell? w _ hx251_9)).trans hx251_9
           replace hx251_10 := (HB.out.cell (World.block_lt_of_cell? w _ hx251_10)).trans hx251_10
           replace hx251_11 := (HB.out.cell (World.block_lt_of_cell? w _ hx251_11)).trans hx251_11
           replace hx251_12 := (HB.out.cell (World.block_lt_of_cell? w _ hx251_12)).trans hx251_12
           replace hx251_13 := (HB.out.cell (World.block_lt_of_cell? w _ hx251_13)).trans hx251_13
           have HR251_13 := Aside0.mk hi251_13
           have HC251_13 := Aside0.mk hl251_13
           clear hi251_13 hl251_13
           replace p251 := eq_true p251
           replace q251 := eq_true q251
           go_wp2
           repeat (go_quiet (fail); try go_wp2)
           go_roundg k2
           case measure => have := HJ5.out; have := HK2.out; omega
           case rel => exact ⟨(wrap64 (x10_2 + 1)), (x11_2), (wrap64 (x12_2 + 1)), (by first | rfl | (simp; done) | (simp [*]; done)), (by first | rfl | (simp; done) | (simp [*]; done)), (by first | rfl | (simp; done) | (simp [*]; done)), H', ⟨by have := HJ5.out; have := HK2.out; omega⟩, ⟨by (with_reducible repeat (first | apply Kd.R_alloc | apply Kd.R_drewN | apply Kd.R_drew)); exact HO_251008.out⟩, ⟨by (with_reducible repeat (first | refine blk_drewN ?_ _ | refine blk_drew ?_ | refine blk_alloc ?_ _)); exact BK250.out⟩, ⟨gw_ HB⟩⟩
       ·
        rw [if_neg c16] at H
        exact absurd H (by simp)
      ·
       rw [if_neg c15] at H
       have c15b0 : decide (x12_2 < (l2.length : Int)) = false := decide_eq_false c15
       clear c15
       by_cases c26 : t239 = 4
       ·
        rw [if_pos c26] at H
        have c26b0 : (t239 == 4) = true := beq_iff_eq.mpr c26
        have c26b1 : (t239 != 4) = false := bne_eq_false_iff_eq.mpr c26
        clear c26
        replace H := Option.bind_eq_some_iff.mp H
        obtain ⟨t255, A270, H⟩ := H
        replace H : (if x10_2 ≥ t255 then (some (t240 == 0 && (t241 == 0 && (t242 == 0 && (t243 == 0 && (t244 == 0 && (t245.toList == ([] : List UInt8)))))))) else (some false)) = some r := H
        have A27 := Aside0.mk A270
        clear A270
        by_cases c28 : x10_2 ≥ t255
        ·
         rw [if_pos c28] at H
         have c28b0 : decide (t255 ≤ x10_2) = true := decide_eq_true c28
         clear c28
         obtain rfl := Option.some.inj H
         obtain ⟨hcz29_0, hcz29_1, hcz29_2, hcz29_3, hcz29_4, hcz29_5, hcz29_6, hcz29_7, hcz29_8⟩ := blk_cells9 BK250.out
         obtain ⟨hfz29_0, hfz29_1, hfz29_2, hfz29_3, hfz29_4, hfz29_5, hfz29_6, hfz29_7, hfz29_8⟩ := blk_frozens9 BK250.out
         go_wp2_with (first | (go_at_call 11; (with_reducible refine (regain_Quorum.calls a0 t255 _ A27.out).mono ?_); rintro e w30 ⟨rfl, hb⟩; have n0_ := Aside0.mk (Kd.R_below (Kd.rk HO_251008) hb); have n1_ := Aside0.mk (blk_below (g := gb250) (bk BK250) hb); have n2_ := Aside0.mk (below_step (gw_ HB) hb); clear HO_251008; clear BK250; clear HB; have HO_251008 := n0_; have BK250 := n1_; have HB := n2_; clear n0_ n1_ n2_; (try clear hb); (try clear hb2); (try clear hk); (try clear hi); obtain ⟨hcz31_0, hcz31_1, hcz31_2, hcz31_3, hcz31_4, hcz31_5, hcz31_6, hcz31_7, hcz31_8⟩ := blk_cells9 BK250.out; obtain ⟨hfz31_0, hfz31_1, hfz31_2, hfz31_3, hfz31_4, hfz31_5, hfz31_6, hfz31_7⟩ := blk_frozens8 BK250.out; have hfz31_8 := blk_frozen BK250.out 8))
         repeat (go_quiet (first | (go_at_call 11; (with_reducible refine (regain_Quorum.calls a0 t255 _ A27.out).mono ?_); rintro e w30 ⟨rfl, hb⟩; have n0_ := Aside0.mk (Kd.R_below (Kd.rk HO_251008) hb); have n1_ := Aside0.mk (blk_below (g := gb250) (bk BK250) hb); have n2_ := Aside0.mk (below_step (gw_ HB) hb); clear HO_251008; clear BK250; clear HB; have HO_251008 := n0_; have BK250 := n1_; have HB := n2_; clear n0_ n1_ n2_; (try clear hb); (try clear hb2); (try clear hk); (try clear hi); obtain ⟨hcz31_0, hcz31_1, hcz31_2, hcz31_3, hcz31_4, hcz31_5, hcz31_6, hcz31_7, hcz31_8⟩ := blk_cells9 BK250.out; obtain ⟨hfz31_0, hfz31_1, hfz31_2, hfz31_3, hfz31_4, hfz31_5, hfz31_6, hfz31_7⟩ := blk_frozens8 BK250.out; have hfz31_8 := blk_frozen BK250.out 8)); try go_wp2_with (first | (go_at_call 11; (with_reducible refine (regain_Quorum.calls a0 t255 _ A27.out).mono ?_); rintro e w30 ⟨rfl, hb⟩; have n0_ := Aside0.mk (Kd.R_below (Kd.rk HO_251008) hb); have n1_ := Aside0.mk (blk_below (g := gb250) (bk BK250) hb); have n2_ := Aside0.mk (below_step (gw_ HB) hb); clear HO_251008; clear BK250; clear HB; have HO_251008 := n0_; have BK250 := n1_; have HB := n2_; clear n0_ n1_ n2_; (try clear hb); (try clear hb2); (try clear hk); (try clear hi); obtain ⟨hcz31_0, hcz31_1, hcz31_2, hcz31_3, hcz31_4, hcz31_5, hcz31_6, hcz31_7, hcz31_8⟩ := blk_cells9 BK250.out; obtain ⟨hfz31_0, hfz31_1, hfz31_2, hfz31_3, hfz31_4, hfz31_5, hfz31_6, hfz31_7⟩ := blk_frozens8 BK250.out; have hfz31_8 := blk_frozen BK250.out 8)))
         go_ret
         exact ⟨by first | rfl | (simp [errW_none, errW_some] <;> rfl) | (simp [*, errW_none, errW_some] <;> rfl), gw_ HB⟩
        ·
         rw [if_neg c28] at H
         have c28b0 : decide (t255 ≤ x10_2) = false := decide_eq_false c28
         clear c28
         exact absurd (Option.some.inj H) (by rw [HRT.out]; decide)
       ·
        rw [if_neg c26] at H
        have c26b0 : (t239 == 4) = false := beq_eq_false_iff_ne.mpr c26
        have c26b1 : (t239 != 4) = true := bne_iff_ne.mpr c26
        by_cases c32 : t239 = 0
        ·
         rw [if_pos c32] at H
         have c32b0 : (t239 == 0) = true := beq_iff_eq.mpr c32
         have c32b1 : (t239 != 0) = false := bne_eq_false_iff_eq.mpr c32
         clear c32
         obtain rfl := Option.some.inj H
         obtain ⟨hcz33_0, hcz33_1, hcz33_2, hcz33_3, hcz33_4, hcz33_5, hcz33_6, hcz33_7, hcz33_8⟩ := blk_cells9 BK250.out
         obtain ⟨hfz33_0, hfz33_1, hfz33_2, hfz33_3, hfz33_4, hfz33_5, hfz33_6, hfz33_7, hfz33_8⟩ := blk_frozens9 BK250.out
         go_wp2
         repeat (go_quiet (fail); try go_wp2)
         go_ret
         exact ⟨by first | rfl | (simp [errW_none, errW_some] <;> rfl) | (simp [*, errW_none, errW_some] <;> rfl), gw_ HB⟩
        ·
         rw [if_neg c32] at H
         have c32b0 : (t239 == 0) = false := beq_eq_false_iff_ne.mpr c32
         have c32b1 : (t239 != 0) = true := bne_iff_ne.mpr c32
         obtain rfl := Option.some.inj H
         obtain ⟨hcz34_0, hcz34_1, hcz34_2, hcz34_3, hcz34_4, hcz34_5, hcz34_6, hcz34_7, hcz34_8⟩ := blk_cells9 BK250.out
         obtain ⟨hfz34_0, hfz34_1, hfz34_2, hfz34_3, hfz34_4, hfz34_5, hfz34_6, hfz34_7, hfz34_8⟩ := blk_frozens9 BK250.out
         go_wp2
         repeat (go_quiet (fail); try go_wp2)
         go_ret
         exact ⟨by first | rfl | (simp [errW_none, errW_some] <;> rfl) | (simp [*, errW_none, errW_some] <;> rfl), gw_ HB⟩

/-! ### colloquyref06_Dep: function 43 -/
def colloquyref06_Dep.f (a0_0 : Int) (l0_1 : List Int) (a1 : Int) : Option (Int) := if a1 < 1 then (some 0) else (if a1 > (l0_1.length : Int) then (some 0) else (if 0 ≤ (wrap64 (a1 - 1)) then (if (wrap64 (a1 - 1)) < (l0_1.length : Int) then (some (rd l0_1 (wrap64 (a1 - 1)))) else (none)) else (none)))
set_option maxHeartbeats 8000000 in
set_option maxRecDepth 100000 in
theorem colloquyref06_Dep.calls (a0_0 : Int) (A0_1 : Option Addr) (c0_1 : Nat) (l0_1 : List Int) (a1 : Int) (r : Int) (w : World) (hr0_1 : Kd.C (Kd.int .i64) w A0_1 l0_1.length l0_1) (hc0_1 : l0_1.length ≤ c0_1) (h : colloquyref06_Dep.f a0_0 l0_1 a1 = some r) :
  Calls Try.prog 43 #[.agg #[.int .i64 a0_0, .slice A0_1 l0_1.length c0_1], .int .i64 a1] w fun e w' => e = .returned (.int .i64 r) ∧ Below w.heap.size w w' := by
 have hu31 := Try.underlying31
 have HR0_1 := Aside0.mk hr0_1
 have HC0_1 := Aside0.mk hc0_1
 clear hr0_1 hc0_1
 have HB := Aside0.mk (Below.refl w.heap.size w)
 have H : (if a1 < 1 then (some 0) else (if a1 > (l0_1.length : Int) then (some 0) else (if 0 ≤ (wrap64 (a1 - 1)) then (if (wrap64 (a1 - 1)) < (l0_1.length : Int) then (some (rd l0_1 (wrap64 (a1 - 1)))) else (none)) else (none)))) = some r := h
 clear h
 by_cases c3 : a1 < 1
 ·
  rw [if_pos c3] at H
  have c3b0 : decide (a1 < 1) = true := decide_eq_true c3
  clear c3
  obtain rfl := Option.some.inj H
  go_enter Try.func43, Try.ntmps43
  go_wp2_with (first | ((with_reducible refine gate_dst (N := 2) rfl ?_); (try (refine gate_guard (by rfl) ?_; dsimp only)); refine box_event ?hg (N := 2) ?hd (cs := #[.int .i64 a0_0, .slice A0_1 l0_1.length c0_1]) (t := 31) ?hr ?_; (case hd => rfl); (case hg => rfl); (case hr => first | (go_simp; done) | (go_simp; rfl)); intro gb256 hg w4 hbox hb; have s_ := step_size_ (gw_ HB) hb hg; have n0_ := Aside0.mk s_.1; have n1_ := Aside0.mk (hbox); have n2_ := Aside0.mk s_.2; clear s_; have n3_ := n2_; clear HB; have HB := n0_; have BK256 := n1_; have GW256 := n2_; have GE256 := n3_; clear n0_ n1_ n2_ n3_; clear hb hbox hg))
  go_ret
  exact ⟨by first | rfl | (simp [errW_none, errW_some] <;> rfl) | (simp [*, errW_none, errW_some] <;> rfl), gw_ HB⟩
 ·
  rw [if_neg c3] at H
  have c3b0 : decide (a1 < 1) = false := decide_eq_false c3
  clear c3
  by_cases c5 : a1 > (l0_1.length : Int)
  ·
   rw [if_pos c5] at H
   have c5b0 : decide ((l0_1.length : Int) < a1) = true := decide_eq_true c5
   clear c5
   obtain rfl := Option.some.inj H
   go_enter Try.func43, Try.ntmps43
   go_wp2_with (first | ((with_reducible refine gate_dst (N := 2) rfl ?_); (try (refine gate_guard (by rfl) ?_; dsimp only)); refine box_event ?hg (N := 2) ?hd (cs := #[.int .i64 a0_0, .slice A0_1 l0_1.length c0_1]) (t := 31) ?hr ?_; (case hd => rfl); (case hg => rfl); (case hr => first | (go_simp; done) | (go_simp; rfl)); intro gb256 hg w6 hbox hb; have s_ := step_size_ (gw_ HB) hb hg; have n0_ := Aside0.mk s_.1; have n1_ := Aside0.mk (hbox); have n2_ := Aside0.mk s_.2; clear s_; have n3_ := n2_; clear HB; have HB := n0_; have BK256 := n1_; have GW256 := n2_; have GE256 := n3_; clear n0_ n1_ n2_ n3_; clear hb hbox hg; obtain ⟨hcz7_0, hcz7_1⟩ := blk_cells2 BK256.out; have hfz7_0 := blk_frozen BK256.out 0; have hfz7_1 := blk_frozen BK256.out 1))
   go_ret
   exact ⟨by first | rfl | (simp [errW_none, errW_some] <;> rfl) | (simp [*, errW_none, errW_some] <;> rfl), gw_ HB⟩
  ·
   rw [if_neg c5] at H
   have c5b0 : decide ((l0_1.length : Int) < a1) = false := decide_eq_false c5
   clear c5
   obtain ⟨ji8, hji8⟩ : ∃ j_ : Int, (wrap64 (a1 - 1)) = j_ := ⟨_, rfl⟩
   replace H : (if 0 ≤ (ji8) then (if (ji8) < (l0_1.length : Int) then (some (rd l0_1 (ji8))) else (none)) else (none)) = some r := by first | (rw [hji8] at H; exact H) | (simp only [hji8] at H ⊢; exact H)
   have hji8w : (IntKind.i64.wrap (a1 - 1)) = ji8 := (i64_w _).trans hji8
   by_cases c9 : 0 ≤ (ji8)
   ·
    rw [if_pos c9] at H
    have c9b0 : decide (0 ≤ (ji8)) = true := decide_eq_true c9
    clear c9
    by_cases c10 : (ji8) < (l0_1.length : Int)
    ·
     rw [if_pos c10] at H
     have c10b0 : decide ((ji8) < (l0_1.length : Int)) = true := decide_eq_true c10
     clear c10
     obtain rfl := Option.some.inj H
     go_enter Try.func43, Try.ntmps43
     go_wp2_with (first | ((with_reducible refine gate_dst (N := 2) rfl ?_); (try (refine gate_guard (by rfl) ?_; dsimp only)); refine box_event ?hg (N := 2) ?hd (cs := #[.int .i64 a0_0, .slice A0_1 l0_1.length c0_1]) (t := 31) ?hr ?_; (case hd => rfl); (case hg => rfl); (case hr => first | (go_simp; done) | (go_simp; rfl)); intro gb256 hg w11 hbox hb; have s_ := step_size_ (gw_ HB) hb hg; have n0_ := Aside0.mk s_.1; have n1_ := Aside0.mk (hbox); have n2_ := Aside0.mk s_.2; clear s_; have n3_ := n2_; clear HB; have HB := n0_; have BK256 := n1_; have GW256 := n2_; have GE256 := n3_; clear n0_ n1_ n2_ n3_; clear hb hbox hg; obtain ⟨hcz12_0, hcz12_1⟩ := blk_cells2 BK256.out; obtain ⟨hfz12_0, hfz12_1⟩ := blk_frozens2 BK256.out; have p257 : 0 ≤ ((ji8) : Int) := of_decide_eq_true (by first | (with_reducible assumption) | assumption); have q257 : (ji8) < (l0_1.length : Int) := of_decide_eq_true (by first | (with_reducible assumption) | assumption); obtain ⟨ad257, e257, hx257_0⟩ := Kd.at_int HR0_1.out (ji8) p257 q257; cases e257; replace hx257_0 := (HB.out.cell (World.block_lt_of_cell? w _ hx257_0)).trans hx257_0; replace p257 := eq_true p257; replace q257 := eq_true q257))
     go_ret
     exact ⟨by first | rfl | (simp [errW_none, errW_some] <;> rfl) | (simp only [← hji8]; first | rfl | (simp [errW_none, errW_some] <;> rfl)) | (simp [*, errW_none, errW_some] <;> rfl), gw_ HB⟩
    ·
     rw [if_neg c10] at H
     exact absurd H (by simp)
   ·
    rw [if_neg c9] at H
    exact absurd H (by simp)

end Go.Proofs.Ytomgiaakhpemaaa.P
