/- Plain Lean functions and their contracts over the translation, written by a program of this session (myprint.py, over the kit's print); no condition but each contract's own. -/
import Derived.Test.YtomgiaakhpemaaaPx0
namespace Go.Proofs.Ytomgiaakhpemaaa.P
open Go.RowKit Go.Proofs.YtomgiaakhpemaaaW.PrintWords Go.Proofs.YtomgiaakhpemaaaW.PrintLast Go.Proofs.YtomgiaakhpemaaaW.PrintMore
attribute [local go_sem] max2_int min2_int max_two min_two max_three min_three max_four min_four   -- for this text's walks alone
set_option linter.unusedVariables false
set_option linter.unusedSimpArgs false

def attr_deps_of.f (l0 : List Int) (a1 : Int) : Option (Int) := if a1 < 1 then (some 0) else (if a1 > (l0.length : Int) then (some 0) else (if 0 ≤ (wrap64 (a1 - 1)) then (if (wrap64 (a1 - 1)) < (l0.length : Int) then (some (rd l0 (wrap64 (a1 - 1)))) else (none)) else (none)))
set_option maxHeartbeats 8000000 in
set_option maxRecDepth 100000 in
theorem attr_deps_of.calls (A0 : Option Addr) (c0 : Nat) (l0 : List Int) (a1 : Int) (r : Int) (w : World) (hr0 : Kd.C (Kd.int .i64) w A0 l0.length l0) (hc0 : l0.length ≤ c0) (h : attr_deps_of.f l0 a1 = some r) :
  Calls Try.prog 50 #[.slice A0 l0.length c0, .int .i64 a1] w fun e w' => e = .returned (.int .i64 r) ∧ Drawn0 w w' := by
 have HR0 := Aside0.mk hr0
 have HC0 := Aside0.mk hc0
 clear hr0 hc0
 have H : (if a1 < 1 then (some 0) else (if a1 > (l0.length : Int) then (some 0) else (if 0 ≤ (wrap64 (a1 - 1)) then (if (wrap64 (a1 - 1)) < (l0.length : Int) then (some (rd l0 (wrap64 (a1 - 1)))) else (none)) else (none)))) = some r := h
 clear h
 by_cases c3 : a1 < 1
 ·
  rw [if_pos c3] at H
  have c3b0 : decide (a1 < 1) = true := decide_eq_true c3
  clear c3
  obtain rfl := Option.some.inj H
  go_enter Try.func50, Try.ntmps50
  go_wp2
  go_ret
  exact ⟨by first | rfl | (simp; done) | (simp [*]; done), by repeat (first | exact Drawn0.refl _ | apply Drawn0.step)⟩
 ·
  rw [if_neg c3] at H
  have c3b0 : decide (a1 < 1) = false := decide_eq_false c3
  clear c3
  by_cases c4 : a1 > (l0.length : Int)
  ·
   rw [if_pos c4] at H
   have c4b0 : decide ((l0.length : Int) < a1) = true := decide_eq_true c4
   clear c4
   obtain rfl := Option.some.inj H
   go_enter Try.func50, Try.ntmps50
   go_wp2
   go_ret
   exact ⟨by first | rfl | (simp; done) | (simp [*]; done), by repeat (first | exact Drawn0.refl _ | apply Drawn0.step)⟩
  ·
   rw [if_neg c4] at H
   have c4b0 : decide ((l0.length : Int) < a1) = false := decide_eq_false c4
   clear c4
   obtain ⟨ji5, hji5⟩ : ∃ j_ : Int, (wrap64 (a1 - 1)) = j_ := ⟨_, rfl⟩
   replace H : (if 0 ≤ (ji5) then (if (ji5) < (l0.length : Int) then (some (rd l0 (ji5))) else (none)) else (none)) = some r := by first | (rw [hji5] at H; exact H) | (simp only [hji5] at H ⊢; exact H)
   have hji5w : (IntKind.i64.wrap (a1 - 1)) = ji5 := (i64_w _).trans hji5
   by_cases c6 : 0 ≤ (ji5)
   ·
    rw [if_pos c6] at H
    have c6b0 : decide (0 ≤ (ji5)) = true := decide_eq_true c6
    clear c6
    by_cases c7 : (ji5) < (l0.length : Int)
    ·
     rw [if_pos c7] at H
     have c7b0 : decide ((ji5) < (l0.length : Int)) = true := decide_eq_true c7
     clear c7
     obtain rfl := Option.some.inj H
     have p101 : 0 ≤ ((ji5) : Int) := of_decide_eq_true (by first | (with_reducible assumption) | assumption)
     have q101 : (ji5) < (l0.length : Int) := of_decide_eq_true (by first | (with_reducible assumption) | assumption)
     obtain ⟨ad101, e101, hx101_0⟩ := Kd.at_int HR0.out (ji5) p101 q101
     cases e101
     replace p101 := eq_true p101
     replace q101 := eq_true q101
     go_enter Try.func50, Try.ntmps50
     go_wp2
     go_ret
     exact ⟨by first | rfl | (simp; done) | (simp only [← hji5] <;> (first | rfl | simp)) | (simp [*]; done), by repeat (first | exact Drawn0.refl _ | apply Drawn0.step)⟩
    ·
     rw [if_neg c7] at H
     exact absurd H (by simp)
   ·
    rw [if_neg c6] at H
    exact absurd H (by simp)

-- making: yes
def attr_Within.f (a0_0 : Int) (l0_1 : List Int) (a1_0 : Int) (l1_1 : List Int) : Option Bool := some ((List.range (max l0_1.length l1_1.length)).all (fun i => decide (l0_1.getD i 0 ≤ l1_1.getD i 0)) && decide (a0_0 ≤ a1_0))
theorem within_no (a0_0 : Int) (l0_1 : List Int) (a1_0 : Int) (l1_1 : List Int) (r : Bool) (h : attr_Within.f a0_0 l0_1 a1_0 l1_1 = some r) (i : Nat) (hi : i < max l0_1.length l1_1.length) (hgt : l1_1.getD i 0 < l0_1.getD i 0) : r = false := by
  unfold attr_Within.f at h
  injection h with h
  rw [← h, Bool.and_eq_false_iff]
  left
  rw [List.all_eq_false]
  exact ⟨i, List.mem_range.2 hi, by simpa using hgt⟩
theorem within_yes (a0_0 : Int) (l0_1 : List Int) (a1_0 : Int) (l1_1 : List Int) (r : Bool) (h : attr_Within.f a0_0 l0_1 a1_0 l1_1 = some r) (hA : ∀ i, i < max l0_1.length l1_1.length → l0_1.getD i 0 ≤ l1_1.getD i 0) : r = decide (a0_0 ≤ a1_0) := by
  unfold attr_Within.f at h
  injection h with h
  rw [← h, List.all_eq_true.2 (fun i hi => by simpa using hA i (List.mem_range.1 hi)), Bool.true_and]
theorem dep_of (l : List Int) (hl : l.length ≤ 9223372036854775807) (i : Nat) (hi : i < 9223372036854775807) : attr_deps_of.f l ((i : Int) + 1) = some (l.getD i 0) := by
  have hw : wrap64 ((i : Int) + 1 - 1) = (i : Int) := by unfold wrap64; omega
  unfold attr_deps_of.f
  rw [if_neg (by omega), hw]
  by_cases h : i < l.length
  · rw [if_neg (by omega), if_pos (by omega), if_pos (by omega)]; simp [rd]
  · rw [if_pos (by omega), List.getD_eq_getElem?_getD, List.getElem?_eq_none (by omega)]; rfl
set_option maxHeartbeats 8000000 in
set_option maxRecDepth 100000 in
theorem attr_Within.calls (a0_0 : Int) (A0_1 : Option Addr) (c0_1 : Nat) (l0_1 : List Int) (a1_0 : Int) (A1_1 : Option Addr) (c1_1 : Nat) (l1_1 : List Int) (r : Bool) (w : World) (hr0_1 : Kd.C (Kd.int .i64) w A0_1 l0_1.length l0_1) (hc0_1 : l0_1.length ≤ c0_1) (hr1_1 : Kd.C (Kd.int .i64) w A1_1 l1_1.length l1_1) (hc1_1 : l1_1.length ≤ c1_1) (h : attr_Within.f a0_0 l0_1 a1_0 l1_1 = some r) :
    Calls Try.prog 48 #[.agg #[.int .i64 a0_0, .slice A0_1 l0_1.length c0_1], .agg #[.int .i64 a1_0, .slice A1_1 l1_1.length c1_1]] w fun e w' => e = .returned (.bool r) ∧ Below w.heap.size w w' := by
  have hu := Try.underlying31
  have HR0 := Aside0.mk hr0_1
  have HR1 := Aside0.mk hr1_1
  have hlen0 : l0_1.length ≤ 9223372036854775807 := hr0_1.2.1
  have hlen1 : l1_1.length ≤ 9223372036854775807 := hr1_1.2.1
  clear hr0_1 hr1_1
  by_cases hmx : l0_1.length < l1_1.length
  all_goals
    go_enter Try.func48, Try.ntmps48
    go_wp2_with fail
    go_quiet (fail)
    go_wp2_with fail
    go_loopw [7, 21] (fun v7 v21 w' => ∃ i : Nat, i ≤ max l0_1.length l1_1.length ∧ v21 = .int .i64 i ∧ w'.cell? ⟨w.heap.size, 0, none⟩ = some (.int .i64 a0_0) ∧ w'.cell? ⟨w.heap.size + 1, 0, none⟩ = some (.int .i64 a1_0) ∧ Aside0 (∀ j, j < i → l0_1.getD j 0 ≤ l1_1.getD j 0) ∧ Aside0 (Below w.heap.size w w')) (fun _ v21 _ => max l0_1.length l1_1.length - (intOf v21).toNat)
    case atStart => exact ⟨0, by omega, rfl, by go_simp, by go_simp, ⟨fun j hj => absurd hj (by omega)⟩, ⟨pw_below_drewN (below_alloc (below_alloc (Below.refl _ _) _) _) _⟩⟩
    case round =>
      obtain ⟨i, hi, rfl, hc0, hc1, HA, HB⟩ := hrel
      by_cases hlt : i < max l0_1.length l1_1.length
      · obtain ⟨x, HX, HD0⟩ : ∃ x, Aside0 (l0_1.getD i 0 = x) ∧ Aside0 (attr_deps_of.f l0_1 ((i : Int) + 1) = some x) := ⟨_, ⟨rfl⟩, ⟨dep_of l0_1 hlen0 i (by omega)⟩⟩
        obtain ⟨y, HY, HD1⟩ : ∃ y, Aside0 (l1_1.getD i 0 = y) ∧ Aside0 (attr_deps_of.f l1_1 ((i : Int) + 1) = some y) := ⟨_, ⟨rfl⟩, ⟨dep_of l1_1 hlen1 i (by omega)⟩⟩
        go_wp2_with fail
        refine (attr_deps_of.calls A0_1 c0_1 l0_1 _ _ _ (Kd.C_below HR0.out HB.out) hc0_1 HD0.out).mono ?_
        rintro e w1 ⟨rfl, ⟨n1, rfl⟩⟩
        go_wp2_with fail
        refine (attr_deps_of.calls A1_1 c1_1 l1_1 _ _ _ (Kd.C_below (Kd.C_below HR1.out HB.out) (pw_below_drewN (Below.refl _ _) _)) hc1_1 HD1.out).mono ?_
        rintro e w1 ⟨rfl, ⟨n2, rfl⟩⟩
        go_wp2_with fail
        · have hgt : y < x := by assumption
          go_ret
          exact ⟨by rw [within_no a0_0 l0_1 a1_0 l1_1 r h i hlt (by rw [HX.out, HY.out]; exact hgt)]; rfl, pw_below_drewN HB.out _⟩
        · have hle : ¬ y < x := by omega
          go_roundw
          case rel => exact ⟨i + 1, by omega, by go_num, by go_simp, by go_simp, ⟨fun j hj => by rcases Nat.lt_or_ge j i with h1 | h1; exact HA.out j h1; rw [show j = i by omega, HX.out, HY.out]; omega⟩, ⟨pw_below_drewN HB.out _⟩⟩
          case measure => simp [intOf]; omega
      · go_wp2_with fail
        go_ret
        exact ⟨by rw [within_yes a0_0 l0_1 a1_0 l1_1 r h (fun j hj => HA.out j (by omega))]; rfl, HB.out⟩

def attr_Same.f (a0_0 : Int) (l0_1 : List Int) (a1_0 : Int) (l1_1 : List Int) : Option (Bool) := (attr_Within.f a0_0 l0_1 a1_0 l1_1).bind fun t104 => (if t104 = true then ((attr_Within.f a1_0 l1_1 a0_0 l0_1).bind fun t105 => (some t105)) else (some false))
set_option maxHeartbeats 8000000 in
set_option maxRecDepth 100000 in
theorem attr_Same.calls (a0_0 : Int) (A0_1 : Option Addr) (c0_1 : Nat) (l0_1 : List Int) (a1_0 : Int) (A1_1 : Option Addr) (c1_1 : Nat) (l1_1 : List Int) (r : Bool) (w : World) (hr0_1 : Kd.C (Kd.int .i64) w A0_1 l0_1.length l0_1) (hc0_1 : l0_1.length ≤ c0_1) (hr1_1 : Kd.C (Kd.int .i64) w A1_1 l1_1.length l1_1) (hc1_1 : l1_1.length ≤ c1_1) (h : attr_Same.f a0_0 l0_1 a1_0 l1_1 = some r) :
  Calls Try.prog 41 #[.agg #[.int .i64 a0_0, .slice A0_1 l0_1.length c0_1], .agg #[.int .i64 a1_0, .slice A1_1 l1_1.length c1_1]] w fun e w' => e = .returned (.bool r) ∧ Below w.heap.size w w' := by
 have hu31 := Try.underlying31
 have HR0_1 := Aside0.mk hr0_1
 have HC0_1 := Aside0.mk hc0_1
 clear hr0_1 hc0_1
 have HR1_1 := Aside0.mk hr1_1
 have HC1_1 := Aside0.mk hc1_1
 clear hr1_1 hc1_1
 have HB := Aside0.mk (Below.refl w.heap.size w)
 have H : ((attr_Within.f a0_0 l0_1 a1_0 l1_1).bind fun t104 => (if t104 = true then ((attr_Within.f a1_0 l1_1 a0_0 l0_1).bind fun t105 => (some t105)) else (some false))) = some r := h
 clear h
 replace H := Option.bind_eq_some_iff.mp H
 obtain ⟨t104, A30, H⟩ := H
 replace H : (if t104 = true then ((attr_Within.f a1_0 l1_1 a0_0 l0_1).bind fun t105 => (some t105)) else (some false)) = some r := H
 have A3 := Aside0.mk A30
 clear A30
 by_cases c4 : t104 = true
 ·
  subst c4
  have H1 : ((attr_Within.f a1_0 l1_1 a0_0 l0_1).bind fun t105 => (some t105)) = some r := by rw [if_pos rfl] at H; exact H
  clear H
  have H := H1
  clear H1
  replace H := Option.bind_eq_some_iff.mp H
  obtain ⟨t105, A50, H⟩ := H
  replace H : (some t105) = some r := H
  have A5 := Aside0.mk A50
  clear A50
  obtain rfl := Option.some.inj H
  go_enter Try.func41, Try.ntmps41
  go_wp2_with (first | ((with_reducible refine gate_dst (N := 2) rfl ?_); refine box_event ?hg (N := 2) ?hd (cs := #[.int .i64 a0_0, .slice A0_1 l0_1.length c0_1]) (t := 31) ?hr ?_; (case hd => rfl); (case hg => rfl); (case hr => first | (go_simp; done) | (go_simp; rfl)); intro gb102 hg w6 hbox hb; have s_ := step_size_ (gw_ HB) hb hg; have n0_ := Aside0.mk s_.1; have n1_ := Aside0.mk (hbox); have n2_ := Aside0.mk s_.2; clear s_; have n3_ := n2_; clear HB; have HB := n0_; have BK102 := n1_; have GW102 := n2_; have GE102 := n3_; clear n0_ n1_ n2_ n3_; clear hb hbox hg) | ((with_reducible refine gate_dst (N := 3) rfl ?_); refine box_event ?hg (N := 3) ?hd (cs := #[.int .i64 a1_0, .slice A1_1 l1_1.length c1_1]) (t := 31) ?hr ?_; (case hd => rfl); (case hg => rfl); (case hr => first | (go_simp; done) | (go_simp; rfl)); intro gb103 hg w7 hbox hb; have n0_ := Aside0.mk (blk_below (g := gb102) (bk BK102) hb); have s_ := step_size_ (gw_ HB) hb hg; have n1_ := Aside0.mk s_.1; have n2_ := Aside0.mk (hbox); have n3_ := Aside0.mk s_.2; clear s_; have n4_ := n3_; have l_ := blk_lt_ (g := gb102) hg (bk BK102); have n5_ := Aside0.mk (Nat.ne_of_lt l_); have n6_ := Aside0.mk (Nat.ne_of_gt l_); clear l_; clear BK102; clear HB; have BK102 := n0_; have HB := n1_; have BK103 := n2_; have GW103 := n3_; have GE103 := n4_; have NB102_103 := n5_; have NB103_102 := n6_; clear n0_ n1_ n2_ n3_ n4_ n5_ n6_; clear hb hbox hg; have hnb8 := NB102_103.out; have hnc8 := NB103_102.out; obtain ⟨hcz9_0, hcz9_1⟩ := blk_cells2 BK102.out; obtain ⟨hfz9_0, hfz9_1⟩ := blk_frozens2 BK102.out; obtain ⟨hcz10_0, hcz10_1⟩ := blk_cells2 BK103.out; obtain ⟨hfz10_0, hfz10_1⟩ := blk_frozens2 BK103.out) | ((with_reducible refine gate_callee (f := 48) rfl ?_); refine goesL_ (some 7) rfl rfl Try.func48 (by kernel_rfl) rfl #[.agg #[.int .i64 a0_0, .slice A0_1 l0_1.length c0_1], .agg #[.int .i64 a1_0, .slice A1_1 l1_1.length c1_1]] rfl (by (try simp only [List.map_toArray, List.map_cons, List.map_nil]); first | done | rfl | (simp only [List.length_drop, List.length_take]; rfl)) ?_; (with_reducible refine (attr_Within.calls a0_0 _ _ l0_1 a1_0 _ _ l1_1 true _ ?side1 ?side2 ?side3 ?side4 A3.out).mono ?_); (case side1 => repeat (first | exact (Kd.C_below HR0_1.out HB.out) | (with_reducible refine Kd.C_alloc ?_ _) | (with_reducible refine Kd.C_drewN ?_ _) | (with_reducible refine Kd.C_drew ?_))); (case side2 => exact HC0_1.out); (case side3 => repeat (first | exact (Kd.C_below HR1_1.out HB.out) | (with_reducible refine Kd.C_alloc ?_ _) | (with_reducible refine Kd.C_drewN ?_ _) | (with_reducible refine Kd.C_drew ?_))); (case side4 => exact HC1_1.out); rintro e w11 ⟨rfl, hb⟩; refine ⟨_, rfl, ?_⟩; have n0_ := Aside0.mk (blk_below (g := gb102) (bk BK102) hb); have n1_ := Aside0.mk (blk_below (g := gb103) (bk BK103) hb); have n2_ := Aside0.mk (below_step (gw_ HB) hb); clear BK102; clear BK103; clear HB; have BK102 := n0_; have BK103 := n1_; have HB := n2_; clear n0_ n1_ n2_; (try clear hb); (try clear hb2); (try clear hk); (try clear hi); obtain ⟨hcz12_0, hcz12_1⟩ := blk_cells2 BK103.out; obtain ⟨hfz12_0, hfz12_1⟩ := blk_frozens2 BK103.out; obtain ⟨hcz13_0, hcz13_1⟩ := blk_cells2 BK102.out; obtain ⟨hfz13_0, hfz13_1⟩ := blk_frozens2 BK102.out) | (go_at_call 48; (with_reducible refine (attr_Within.calls a1_0 _ _ l1_1 a0_0 _ _ l0_1 t105 _ ?side1 ?side2 ?side3 ?side4 A5.out).mono ?_); (case side1 => repeat (first | exact (Kd.C_below HR1_1.out HB.out) | (with_reducible refine Kd.C_alloc ?_ _) | (with_reducible refine Kd.C_drewN ?_ _) | (with_reducible refine Kd.C_drew ?_))); (case side2 => exact HC1_1.out); (case side3 => repeat (first | exact (Kd.C_below HR0_1.out HB.out) | (with_reducible refine Kd.C_alloc ?_ _) | (with_reducible refine Kd.C_drewN ?_ _) | (with_reducible refine Kd.C_drew ?_))); (case side4 => exact HC0_1.out); rintro e w14 ⟨rfl, hb⟩; have n0_ := Aside0.mk (blk_below (g := gb102) (bk BK102) hb); have n1_ := Aside0.mk (blk_below (g := gb103) (bk BK103) hb); have n2_ := Aside0.mk (below_step (gw_ HB) hb); clear BK102; clear BK103; clear HB; have BK102 := n0_; have BK103 := n1_; have HB := n2_; clear n0_ n1_ n2_; (try clear hb); (try clear hb2); (try clear hk); (try clear hi)))
  go_ret
  exact ⟨by first | rfl | (simp [errW_none, errW_some] <;> rfl) | (simp [*, errW_none, errW_some] <;> rfl), gw_ HB⟩
 ·
  replace c4 := Bool.eq_false_iff.mpr c4
  subst c4
  have H1 : (some false) = some r := by rw [if_neg (show ¬ (false = true) by decide)] at H; exact H
  clear H
  have H := H1
  clear H1
  obtain rfl := Option.some.inj H
  go_enter Try.func41, Try.ntmps41
  go_wp2_with (first | ((with_reducible refine gate_dst (N := 2) rfl ?_); refine box_event ?hg (N := 2) ?hd (cs := #[.int .i64 a0_0, .slice A0_1 l0_1.length c0_1]) (t := 31) ?hr ?_; (case hd => rfl); (case hg => rfl); (case hr => first | (go_simp; done) | (go_simp; rfl)); intro gb102 hg w15 hbox hb; have s_ := step_size_ (gw_ HB) hb hg; have n0_ := Aside0.mk s_.1; have n1_ := Aside0.mk (hbox); have n2_ := Aside0.mk s_.2; clear s_; have n3_ := n2_; clear HB; have HB := n0_; have BK102 := n1_; have GW102 := n2_; have GE102 := n3_; clear n0_ n1_ n2_ n3_; clear hb hbox hg) | ((with_reducible refine gate_dst (N := 3) rfl ?_); refine box_event ?hg (N := 3) ?hd (cs := #[.int .i64 a1_0, .slice A1_1 l1_1.length c1_1]) (t := 31) ?hr ?_; (case hd => rfl); (case hg => rfl); (case hr => first | (go_simp; done) | (go_simp; rfl)); intro gb103 hg w16 hbox hb; have n0_ := Aside0.mk (blk_below (g := gb102) (bk BK102) hb); have s_ := step_size_ (gw_ HB) hb hg; have n1_ := Aside0.mk s_.1; have n2_ := Aside0.mk (hbox); have n3_ := Aside0.mk s_.2; clear s_; have n4_ := n3_; have l_ := blk_lt_ (g := gb102) hg (bk BK102); have n5_ := Aside0.mk (Nat.ne_of_lt l_); have n6_ := Aside0.mk (Nat.ne_of_gt l_); clear l_; clear BK102; clear HB; have BK102 := n0_; have HB := n1_; have BK103 := n2_; have GW103 := n3_; have GE103 := n4_; have NB102_103 := n5_; have NB103_102 := n6_; clear n0_ n1_ n2_ n3_ n4_ n5_ n6_; clear hb hbox hg; have hnb17 := NB102_103.out; have hnc17 := NB103_102.out; obtain ⟨hcz18_0, hcz18_1⟩ := blk_cells2 BK102.out; obtain ⟨hfz18_0, hfz18_1⟩ := blk_frozens2 BK102.out; obtain ⟨hcz19_0, hcz19_1⟩ := blk_cells2 BK103.out; obtain ⟨hfz19_0, hfz19_1⟩ := blk_frozens2 BK103.out) | ((with_reducible refine gate_callee (f := 48) rfl ?_); refine goesL_ (some 7) rfl rfl Try.func48 (by kernel_rfl) rfl #[.agg #[.int .i64 a0_0, .slice A0_1 l0_1.length c0_1], .agg #[.int .i64 a1_0, .slice A1_1 l1_1.length c1_1]] rfl (by (try simp only [List.map_toArray, List.map_cons, List.map_nil]); first | done | rfl | (simp only [List.length_drop, List.length_take]; rfl)) ?_; (with_reducible refine (attr_Within.calls a0_0 _ _ l0_1 a1_0 _ _ l1_1 false _ ?side1 ?side2 ?side3 ?side4 A3.out).mono ?_); (case side1 => repeat (first | exact (Kd.C_below HR0_1.out HB.out) | (with_reducible refine Kd.C_alloc ?_ _) | (with_reducible refine Kd.C_drewN ?_ _) | (with_reducible refine Kd.C_drew ?_))); (case side2 => exact HC0_1.out); (case side3 => repeat (first | exact (Kd.C_below HR1_1.out HB.out) | (with_reducible refine Kd.C_alloc ?_ _) | (with_reducible refine Kd.C_drewN ?_ _) | (with_reducible refine Kd.C_drew ?_))); (case side4 => exact HC1_1.out); rintro e w20 ⟨rfl, hb⟩; refine ⟨_, rfl, ?_⟩; have n0_ := Aside0.mk (blk_below (g := gb102) (bk BK102) hb); have n1_ := Aside0.mk (blk_below (g := gb103) (bk BK103) hb); have n2_ := Aside0.mk (below_step (gw_ HB) hb); clear BK102; clear BK103; clear HB; have BK102 := n0_; have BK103 := n1_; have HB := n2_; clear n0_ n1_ n2_; (try clear hb); (try clear hb2); (try clear hk); (try clear hi)))
  go_ret
  exact ⟨by first | rfl | (simp [errW_none, errW_some] <;> rfl) | (simp [*, errW_none, errW_some] <;> rfl), gw_ HB⟩

def ballot_First.f (a0 : Int) : Option (Int × Int) := some (0, a0)
set_option maxHeartbeats 8000000 in
set_option maxRecDepth 100000 in
theorem ballot_First.calls (a0 : Int) (r1 : Int) (r2 : Int) (w : World) (h : ballot_First.f a0 = some (r1, r2)) :
  Calls Try.prog 40 #[.int .i64 a0] w fun e w' => e = .returned (.agg #[.int .i64 r1, .int .i64 r2]) ∧ Below w.heap.size w w' := by
 have hu26 := Try.underlying26
 have HB := Aside0.mk (Below.refl w.heap.size w)
 have H : (some (0, a0)) = some (r1, r2) := h
 clear h
 simp only [Option.some.injEq, Prod.mk.injEq] at H
 obtain ⟨rfl, rfl⟩ := H
 go_enter Try.func40, Try.ntmps40
 go_wp2_with (first | ((with_reducible refine gate_dst (N := 2) rfl ?_); refine box_event ?hg (N := 2) ?hd (cs := #[.int .i64 0, .int .i64 0]) (t := 26) ?hr ?_; (case hd => rfl); (case hg => rfl); (case hr => first | (go_simp; done) | (go_simp; rfl)); intro gb106 hg w2 hbox hb; have s_ := step_size_ (gw_ HB) hb hg; have n0_ := Aside0.mk s_.1; have n1_ := Aside0.mk (hbox); have n2_ := Aside0.mk s_.2; clear s_; have n3_ := n2_; clear HB; have HB := n0_; have BK106 := n1_; have GW106 := n2_; have GE106 := n3_; clear n0_ n1_ n2_ n3_; clear hb hbox hg; obtain ⟨hcz3_0, hcz3_1⟩ := blk_cells2 BK106.out; have hfz3_0 := blk_frozen BK106.out 0; have hfz3_1 := blk_frozen BK106.out 1))
 refine bodyPost_ret (results_cell_row rfl _ _ gb106 26 #[.int .i64 0, .int .i64 a0] (0, 0) _ rfl (by (with_reducible repeat (first | refine blk_drewN ?_ _ | refine blk_drew ?_ | refine blk_alloc ?_ _)); refine blk_put (cs := #[.int .i64 0, .int .i64 0]) ?_ 1 _ rfl; (with_reducible repeat (first | refine blk_drewN ?_ _ | refine blk_drew ?_ | refine blk_alloc ?_ _)); refine blk_put (cs := #[.int .i64 0, .int .i64 0]) ?_ 0 _ rfl; (with_reducible repeat (first | refine blk_drewN ?_ _ | refine blk_drew ?_ | refine blk_alloc ?_ _)); exact BK106.out) Try.underlying26 rfl (by kernel_rfl)) rfl ?_
 exact ⟨by first | rfl | (simp [errW_none, errW_some] <;> rfl) | (simp [*, errW_none, errW_some] <;> rfl), gw_ HB⟩

-- making: yes
/-- an element's cells -/
def cellsR (x : S35) (A : Option Addr) (c : Nat) : Array Value := #[.int .i64 x.f0, .int .i64 x.f1.f0, .int .i64 x.f1.f1.f0, .int .i64 x.f1.f1.f1, .int .i64 x.f1.f2.f0, .int .i64 x.f1.f2.f1, .int .i64 x.f1.f3.f0, .int .i64 x.f1.f3.f1, .int .i64 x.f1.f3.f2, .int .i64 x.f1.f3.f3, .int .i64 x.f1.f3.f4, .string x.f1.f3.f5, .int .i64 x.f1.f4.f0, .slice A x.f1.f4.f1.length c]
/-- where the first one is of which p holds; -1: there is none -/
def idxOfR (p : S35 → Bool) (l : List S35) : Int := match l.findIdx? p with | some i => (i : Int) | none => -1
theorem idxOfR_at (p : S35 → Bool) (l : List S35) (i : Nat) (hi : i < l.length) (h : ∀ x, x ∈ l.take i → p x = false) (hp : p l[i] = true) : idxOfR p l = i := by
  unfold idxOfR
  have : l.findIdx? p = some i := by
    rw [List.findIdx?_eq_some_iff_getElem]
    refine ⟨hi, hp, fun j hj => ?_⟩
    rw [h _ (List.mem_take_iff_getElem.2 ⟨j, by omega, rfl⟩)]; simp
  rw [this]
theorem idxOfR_none (p : S35 → Bool) (l : List S35) (h : ∀ x, x ∈ l → p x = false) : idxOfR p l = -1 := by
  unfold idxOfR
  rw [List.findIdx?_eq_none_iff.2 h]
theorem idxOfR_any (p : S35 → Bool) (l : List S35) : decide (0 ≤ idxOfR p l) = l.any p := by
  unfold idxOfR
  cases h : l.findIdx? p with
  | none =>
    rw [List.findIdx?_eq_none_iff] at h
    rw [List.any_eq_false.2 (fun x hx => by rw [h x hx]; simp)]; rfl
  | some i =>
    rw [List.findIdx?_eq_some_iff_getElem] at h
    obtain ⟨hi, hp, _⟩ := h
    rw [List.any_eq_true.2 ⟨l[i], List.getElem_mem hi, hp⟩]; simp
theorem rdTR_at (l : List S35) (j : Nat) (h : j < l.length) : rd_T35 l (j : Int) = l[j] := by
  unfold rd_T35; simp [List.getD_eq_getElem?_getD, List.getElem?_eq_getElem h]
/-- a closure that tells whether p holds of an element; it makes memory of its own alone -/
def PredR (g : Nat) (lb : Array Value) (p : S35 → Bool) (w : World) : Prop := ∀ (W : World) (x : S35) (A : Option Addr) (c : Nat), Below w.heap.size w W → x.f1.f4.f1.length ≤ c → (Kd.int .i64).C W A x.f1.f4.f1.length x.f1.f4.f1 → Calls Try.prog g (#[.agg (cellsR x A c)] ++ lb) W fun e W' => e = .returned (.bool (p x)) ∧ Below W.heap.size W W'
set_option maxHeartbeats 8000000 in
set_option maxRecDepth 100000 in
theorem indexR_calls (g : Nat) (lb : Array Value) (eg : ∀ args w, (callFunc g args).run Try.prog w = .ok (.enter g args) w) (p : S35 → Bool) (A0 : Option Addr) (c0 : Nat) (l0 : List S35) (w : World) (hr0 : Kd.C k35 w A0 l0.length l0) (hc0 : l0.length ≤ c0) (hf : l0 ≠ [] → PredR g lb p w) :
    Calls Try.prog 35 #[.slice A0 l0.length c0, .func (.func g) #[] lb] w fun e w' => e = .returned (.int .i64 (idxOfR p l0)) ∧ Below w.heap.size w w' := by
  have hu := Try.underlying35
  have huS := Try.underlying22
  have HR := Aside0.mk hr0
  have HF := Aside0.mk hf
  have hlen : l0.length ≤ 9223372036854775807 := hr0.2.1
  clear hr0 hf
  go_enter Try.func35, Try.ntmps35
  go_wp2_with fail
  go_loopw [5, 8] (fun v5 v8 w' => ∃ i : Nat, i ≤ l0.length ∧ v8 = .int .i64 i ∧ Aside0 (∀ x, x ∈ l0.take i → p x = false) ∧ Aside0 (Below w.heap.size w w')) (fun _ v8 _ => l0.length - (intOf v8).toNat)
  case atStart => exact ⟨0, by omega, rfl, ⟨by simp⟩, ⟨Below.refl _ _⟩⟩
  case round =>
    obtain ⟨i, hi, rfl, HP, HB⟩ := hrel
    by_cases hlt : i < l0.length
    · obtain ⟨ad', A, c, e0, hx0, hx1, hx2, hx3, hx4, hx5, hx6, hx7, hx8, hx9, hx10, hx11, hx12, hx13, hcl, hC⟩ := at_T35 (Kd.C_below HR.out HB.out) (i : Int) (by omega) (by omega)
      cases e0
      obtain ⟨y, hy⟩ : ∃ y, rd_T35 l0 (i : Int) = y := ⟨_, rfl⟩
      simp only [hy, Int.toNat_natCast] at hx0 hx1 hx2 hx3 hx4 hx5 hx6 hx7 hx8 hx9 hx10 hx11 hx12 hx13 hcl hC
      have HY : Aside0 (l0[i]'hlt = y) := ⟨by rw [← hy, rdTR_at l0 i hlt]⟩
      clear hy
      have hf' := HF.out (by intro e; rw [e] at hlt; exact absurd hlt (Nat.not_lt_zero _)) wr y A c HB.out hcl hC
      unfold cellsR at hf'
      have HC := Aside0.mk hC
      clear hC
      cases hp : p y with
      | true =>
        rw [hp] at hf'
        have HF' := Aside0.mk hf'
        have HP' : Aside0 (idxOfR p l0 = i) := ⟨idxOfR_at p l0 i hlt HP.out (by rw [HY.out]; exact hp)⟩
        clear hf' hp
        go_wp2_with fail
        refine HF'.out.mono ?_
        rintro e w1 ⟨rfl, hb1⟩
        have HB1 := Aside0.mk (below_step HB.out hb1)
        clear hb1
        go_wp2_with fail
        go_ret
        exact ⟨by rw [HP'.out]; rfl, HB1.out⟩
      | false =>
        rw [hp] at hf'
        have HF' := Aside0.mk hf'
        have HP' : Aside0 (∀ x, x ∈ l0.take (i + 1) → p x = false) := ⟨fun x hx => by
          rw [List.take_succ_eq_append_getElem hlt, List.mem_append, List.mem_singleton] at hx
          rcases hx with hx | rfl
          · exact HP.out x hx
          · rw [HY.out]; exact hp⟩
        clear hf' hp
        go_wp2_with fail
        refine HF'.out.mono ?_
        rintro e w1 ⟨rfl, hb1⟩
        have HB1 := Aside0.mk (below_step HB.out hb1)
        clear hb1
        go_wp2_with fail
        go_roundw
        case rel => exact ⟨i + 1, by omega, by go_num, HP', HB1⟩
        case measure => simp [intOf]; omega
    · go_wp2_with fail
      go_ret
      exact ⟨by rw [idxOfR_none p l0 (fun x hx => HP.out x (by rw [List.take_of_length_le (by omega)]; exact hx))]; rfl, HB.out⟩

theorem regain_done1_calls (w : World) : PredR 36 #[] (fun x => x.f1.f0 == 3) w := by
  intro W x A c hb hcl hC
  unfold cellsR
  have hu := Try.underlying35
  have hu3 := Try.underlying33
  clear hC
  by_cases hx : x.f1.f0 = 3
  · have hd : decide (x.f1.f0 = 3) = true := decide_eq_true hx
    go_enter Try.func36, Try.ntmps36
    go_wp2_with fail
    go_ret
    exact ⟨by simp [hx], below_alloc (Below.refl _ _) _⟩
  · go_enter Try.func36, Try.ntmps36
    go_wp2_with fail
    go_ret
    exact ⟨by simp [hx], below_alloc (Below.refl _ _) _⟩
theorem eg_done1 : ∀ args w, (callFunc 36 args).run Try.prog w = .ok (.enter 36 args) w := enters_ Try.func36 (by kernel_rfl) rfl
def api_Report_35.f (l : List S35) : Option Int := some (idxOfR (fun x => x.f1.f0 == 3) l)
theorem api_Report_35.calls (A0 : Option Addr) (c0 : Nat) (l0 : List (S35)) (r : Int) (w : World) (hr0 : Kd.C k35 w A0 l0.length l0) (hc0 : l0.length ≤ c0) (h : api_Report_35.f l0 = some r) :
    Calls Try.prog 35 #[.slice A0 l0.length c0, .func (.func 36) #[] #[]] w fun e w' => e = .returned (.int .i64 r) ∧ Below w.heap.size w w' := by
  obtain rfl := Option.some.inj h
  exact indexR_calls _ _ eg_done1 _ A0 c0 l0 w hr0 hc0 fun _ => regain_done1_calls w

def regain_bound.f (a0 : Int) : Option (Int) := some (mn (mx a0 1) 7)
set_option maxHeartbeats 8000000 in
set_option maxRecDepth 100000 in
theorem regain_bound.calls (a0 : Int) (r : Int) (w : World) (h : regain_bound.f a0 = some r) :
  Calls Try.prog 26 #[.int .i64 a0] w fun e w' => e = .returned (.int .i64 r) ∧ Below w.heap.size w w' := by
 have HB := Aside0.mk (Below.refl w.heap.size w)
 have H : (some (mn (mx a0 1) 7)) = some r := h
 clear h
 obtain ⟨ji2, hji2⟩ : ∃ j_ : Int, (mx a0 1) = j_ := ⟨_, rfl⟩
 replace H : (some (mn (ji2) 7)) = some r := by first | (rw [hji2] at H; exact H) | (simp only [hji2] at H ⊢; exact H)
 (try (have hji2l : 1 ≤ ji2 := by (rw [← hji2]; unfold mx; (repeat' split) <;> omega)))
 (try (have hji2m : 0 ≤ ji2 := by omega))
 have hji2_ : (if a0 < 1 then 1 else a0) = ji2 := hji2
 obtain ⟨ji3, hji3⟩ : ∃ j_ : Int, (mn (ji2) 7) = j_ := ⟨_, rfl⟩
 replace H : (some ji3) = some r := by first | (rw [hji3] at H; exact H) | (simp only [hji3] at H ⊢; exact H)
 have hji3_ : (if 7 < (ji2) then 7 else (ji2)) = ji3 := hji3
 obtain rfl := Option.some.inj H
 go_enter Try.func26, Try.ntmps26
 go_wp2
 go_ret
 exact ⟨by first | rfl | (simp [errW_none, errW_some] <;> rfl) | (simp only [← hji2, ← hji3]; first | rfl | (simp [errW_none, errW_some] <;> rfl)) | (simp [*, errW_none, errW_some] <;> rfl), gw_ HB⟩

-- NOT PRINTED: function 34 (regain_counting)

-- making: yes
-- share: 1
-- rsh: 0=N
section
attribute [local go_sem] Oper.semAt_some
theorem counting11_calls (b : Nat) (k : Int) (h0 : 0 ≤ k) (h1 : k < 100) (w : World) (hb : w.cell? ⟨b, 0, none⟩ = some (.int .i64 k)) : PredR 45 #[.pointer (some ⟨b, 0, none⟩)] (fun x => x.f0 == k + 1) w := by
  intro W x A c hW hcl hC
  unfold cellsR
  have hu := Try.underlying35
  have hb' := pw_cell_below hW hb
  have hlt := World.block_lt_of_cell? _ _ hb'
  have hk : wrap64 (k + 1) = k + 1 := by unfold wrap64; omega
  clear hC hb
  go_enter Try.func45, Try.ntmps45
  go_wp2_with fail
  go_ret
  exact ⟨by first | rfl | simp, below_alloc (Below.refl _ _) _⟩
theorem eg_counting11 : ∀ args w, (callFunc 45 args).run Try.prog w = .ok (.enter 45 args) w := enters_ Try.func45 (by kernel_rfl) rfl
/-- what an iterator's rounds keep: all that lay below n1 but the block B -/
def KpR (n1 B : Nat) (W W' : World) : Prop := W.heap.size ≤ W'.heap.size ∧ ∀ k, k < n1 → k ≠ B → W'.heap[k]? = W.heap[k]?
theorem kpR_t {n1 B : Nat} {X Y Z : World} (h : KpR n1 B X Y) (k : KpR n1 B Y Z) : KpR n1 B X Z := ⟨Nat.le_trans h.1 k.1, fun i hi hb => (k.2 i hi hb).trans (h.2 i hi hb)⟩
/-- where the first one of a replica stands -/
def atR (l : List S35) (k : Nat) : Option Nat := l.findIdx? fun x => x.f0 == (k : Int) + 1
def uptoR (l : List S35) (k : Nat) : List Nat := (List.range k).filterMap (atR l)
theorem uptoR_none {l : List S35} {k : Nat} (h : atR l k = none) : uptoR l (k + 1) = uptoR l k := by
  unfold uptoR
  rw [List.range_succ, List.filterMap_append]
  simp [h]
theorem uptoR_some {l : List S35} {k i : Nat} (h : atR l k = some i) : uptoR l (k + 1) = uptoR l k ++ [i] := by
  unfold uptoR
  rw [List.range_succ, List.filterMap_append]
  simp [h]
theorem uptoR_le (l : List S35) {k m : Nat} (h : k ≤ m) : uptoR l k <+: uptoR l m := by
  obtain ⟨d, rfl⟩ := Nat.le.dest h
  clear h
  induction d with
  | zero => exact List.prefix_refl _
  | succ d ih =>
    refine ih.trans ?_
    rw [show k + (d + 1) = (k + d) + 1 by omega]
    cases h : atR l (k + d) with
    | none => rw [uptoR_none h]; exact List.prefix_refl _
    | some i => rw [uptoR_some h]; exact List.prefix_append _ _
theorem atR_lt {l : List S35} {k i : Nat} (h : atR l k = some i) : i < l.length := by
  unfold atR at h
  rw [List.findIdx?_eq_some_iff_getElem] at h
  exact h.1
theorem idxOfR_atR (l : List S35) (k : Nat) : idxOfR (fun x => x.f0 == (k : Int) + 1) l = match atR l k with | some i => (i : Int) | none => -1 := rfl
theorem below_new {w : World} (o : Obj) (v : Value) : Below w.heap.size w ((w.alloc o).setCell ⟨w.heap.size, 0, none⟩ v) := below_set (below_alloc (Below.refl _ _) o) (Nat.le_refl _)
theorem kpR_below {n1 B : Nat} {X Y : World} (h : Below X.heap.size X Y) (hn : n1 ≤ X.heap.size) : KpR n1 B X Y := ⟨h.size, fun k hk _ => h.block k (Nat.lt_of_lt_of_le hk hn)⟩
set_option maxHeartbeats 8000000 in
set_option maxRecDepth 100000 in
theorem counting1_stops (n : Nat) (hn : 1 ≤ n) (a0 : Int) (m : Nat) (hm7 : m ≤ 7) (hm : regain_bound.f a0 = some (m : Int)) (n1 B b0 b1 : Nat) (w : World) (A0 : Option Addr) (c0 : Nat) (l0 : List S35) (cs : Nat → Array Value)
    (hb0 : w.heap[b0]? = some (.cells #[.int .i64 a0] 3 (0, 0))) (hb1 : w.heap[b1]? = some (.cells #[.slice A0 l0.length c0] 22 (0, 0))) (h1 : b1 < n1) (h1' : b1 ≠ B) (hn1 : n1 ≤ w.heap.size)
    (hF : Kd.F k35 w (fun k => k < n1 ∧ k ≠ B) A0 l0.length l0) (hc0 : l0.length ≤ c0)
    (hcs : ∀ i : Nat, i < l0.length → ∃ ad A c, A0 = some ad ∧ (ad.block < n1 ∧ ad.block ≠ B) ∧ cs i = cellsR (rd_T35 l0 (i : Int)) A c ∧ w.cell? (ad.add (i * 14 + 13)) = some (.slice A (rd_T35 l0 (i : Int)).f1.f4.f1.length c)) :
    SeqStopsK Fence.wide n Try.prog 44 #[.pointer (some ⟨b0, 0, none⟩), .pointer (some ⟨b1, 0, none⟩)] (fun i : Nat => #[Value.agg (cs i)]) (KpR n1 B) (fun ys => ys = uptoR l0 m) (fun pre => pre <+: uptoR l0 m) (uptoR l0 m).length w := fun l J Jx W hW hJ hJx hY h0J => by
  have hu := Try.underlying35
  have huS := Try.underlying22
  have HC := Aside0.mk hcs
  have HY := Aside0.mk hY
  have HJx := Aside0.mk hJx
  have HJ := Aside0.mk hJ
  have HJ0 := Aside0.mk h0J
  have q0 : W.cell? ⟨b0, 0, none⟩ = some (.int .i64 a0) := blk_cell (blk_below hb0 hW) 0
  have HB1 := Aside0.mk (blk_below hb1 hW)
  have HF := Aside0.mk (Kd.F_below hF hW)
  have HKW := Aside0.mk (kpR_below (n1 := n1) (B := B) hW hn1)
  have hn1W : n1 ≤ W.heap.size := Nat.le_trans hn1 hW.size
  have HW := Aside0.mk hW
  clear hcs hY hJ hJx h0J hF hb0 hb1 hW
  refine callsIn_of_wp Try.func44 rfl trivial ?_ rfl
  simp only [Try.ntmps44, List.size_toArray, List.length_cons, List.length_nil, Nat.reduceAdd, Nat.reduceSub, Array.replicate_succ, Array.replicate_zero, List.push_toArray, List.append_toArray, List.nil_append, List.cons_append]
  gi_wp2_with (refine ⟨trivial, ?_⟩; gi_at_call 26; refine (callsIn_wide.2 (regain_bound.calls a0 m W hm)).mono ?_; rintro e w1 ⟨rfl, hb1⟩; have HBW := Aside0.mk hb1; clear hb1)
  have huC := Try.underlying3
  gi_loopw [8] (fun p wr => ∃ k : Nat, k ≤ m ∧ p = .int .i64 (k : Int) ∧ Aside0 (KpR n1 B W wr) ∧ Aside0 (J (uptoR l0 k) wr) ∧ Aside0 (W.heap.size ≤ wr.heap.size)) (fun p _ => m - (intOf p).toNat)
  case atStart => exact ⟨0, Nat.zero_le _, rfl, ⟨kpR_below HBW.out hn1W⟩, ⟨HJ.out _ _ _ none HJ0.out (grown_of_below HBW.out none) (fun _ h => by cases h)⟩, ⟨HBW.out.size⟩⟩
  case round =>
    obtain ⟨k, hk, rfl, HK, HJk, HS⟩ := hrel
    have hlw : W.heap.size ≤ wr.heap.size := HS.out
    by_cases hlt : k < m
    · have qb1 : wr.heap[b1]? = some (.cells #[.slice A0 l0.length c0] 22 (0, 0)) := (HK.out.2 b1 h1 h1').trans HB1.out
      have HF1 := Aside0.mk (Kd.F_step HF.out (fun j hj _ => HK.out.2 j hj.1 hj.2))
      obtain ⟨W2, hW2⟩ : ∃ W2, (wr.alloc (.cells #[.int .i64 0] 3)).setCell ⟨wr.heap.size, 0, none⟩ (.int .i64 k) = W2 := ⟨_, rfl⟩
      have hbW2 : Below wr.heap.size wr W2 := hW2 ▸ below_new _ _
      have hk2 : W2.cell? ⟨wr.heap.size, 0, none⟩ = some (.int .i64 k) := by rw [← hW2]; exact World.cell?_setCell_same' _ _ _ (by simp)
      have q1 : W2.cell? ⟨b1, 0, none⟩ = some (.slice A0 l0.length c0) := blk_cell (blk_below qb1 hbW2) 0
      have HI := Aside0.mk (indexR_calls 45 #[.pointer (some ⟨wr.heap.size, 0, none⟩)] eg_counting11 (fun x => x.f0 == (k : Int) + 1) A0 c0 l0 W2 (Kd.F_now (Kd.F_below HF1.out hbW2)) hc0 (fun _ => counting11_calls wr.heap.size k (by omega) (by omega) W2 hk2))
      have HBW2 := Aside0.mk hbW2
      have HF2 := Aside0.mk (Kd.F_below HF1.out hbW2)
      have HQ1 := Aside0.mk (blk_below qb1 hbW2)
      rw [idxOfR_atR l0 k] at HI
      clear hbW2 hk2
      cases hat : atR l0 k with
      | none =>
        rw [hat] at HI
        have HU := Aside0.mk (uptoR_none hat)
        clear hat
        gi_wp2_with (refine ⟨trivial, ?_⟩; gi_at_call 35; refine (callsIn_wide.2 HI.out).mono ?_; rintro e w2 ⟨rfl, hb2⟩; have HB2 := Aside0.mk hb2; clear hb2)
        refine ⟨fun _ h => (by cases h), ?_⟩
        gi_wp2
        go_roundw
        case rel =>
          have hb3 := below_step HBW2.out HB2.out
          exact ⟨k + 1, by omega, by go_num, ⟨kpR_t HK.out (kpR_below hb3 (by omega))⟩, ⟨by rw [HU.out]; exact HJ.out _ _ _ none HJk.out (grown_of_below hb3 none) (fun _ h => by cases h)⟩, ⟨Nat.le_trans hlw hb3.size⟩⟩
        case measure => simp [intOf]; omega
      | some i =>
        rw [hat] at HI
        have hil := atR_lt hat
        have HU := Aside0.mk (uptoR_some hat)
        have HL : Aside0 ((uptoR l0 k).length < (uptoR l0 m).length) := ⟨by
          have h1 := (uptoR_le l0 (show k + 1 ≤ m by omega)).length_le
          rw [uptoR_some hat, List.length_append, List.length_singleton] at h1
          omega⟩
        clear hat
        have hi0 : (0 : Int) ≤ (i : Int) := by omega
        have hi1 : (i : Int) < (l0.length : Int) := by omega
        gi_wp2_with (refine ⟨trivial, ?_⟩; gi_at_call 35; refine (callsIn_wide.2 HI.out).mono ?_; rintro e w2 ⟨rfl, hb2⟩; obtain ⟨ad', A', c', e0', hx0, hx1, hx2, hx3, hx4, hx5, hx6, hx7, hx8, hx9, hx10, hx11, hx12, hx13, hcl, hCC⟩ := at_T35 (Kd.F_now (Kd.F_below HF2.out hb2)) (i : Int) hi0 hi1; obtain ⟨ad, A, c, e0, hbk, ecs, h13⟩ := HC.out i hil; obtain rfl : ad = ad' := Option.some.inj (e0.symm.trans e0'); have hh : w2.heap[ad.block]? = w.heap[ad.block]? := (hb2.block _ (Nat.lt_of_lt_of_le hbk.1 (Nat.le_trans hn1W (Nat.le_trans hlw HBW2.out.size)))).trans ((HBW2.out.block _ (Nat.lt_of_lt_of_le hbk.1 (Nat.le_trans hn1W hlw))).trans ((HK.out.2 _ hbk.1 hbk.2).trans (HKW.out.2 _ hbk.1 hbk.2))); have h14 : w2.cell? (ad.add (i * 14 + 13)) = w.cell? (ad.add (i * 14 + 13)) := (by simp [World.cell?, add_block, hh]); rw [← h14, add_field _ _ 13 (by omega)] at h13; simp only [Int.toNat_natCast] at hx0 hx1 hx2 hx3 hx4 hx5 hx6 hx7 hx8 hx9 hx10 hx11 hx12 hx13; have h15 := Option.some.inj (h13.symm.trans hx13); injection h15 with hA _ hc_; subst hA; subst hc_; have hb3 := below_step HBW2.out hb2; obtain ⟨fn, tmps, assign, body, hy, hR⟩ := HY.out (uptoR l0 k) i w2 (HJ.out _ _ _ none HJk.out (grown_of_below hb3 none) (fun _ h => by cases h)) HL.out; simp only [ecs, cellsR] at hy; have HR := Aside0.mk hR; have HB2 := Aside0.mk hb2; have HB3 := Aside0.mk hb3; have hq1 := blk_cell (blk_below HQ1.out hb2) 0; clear hb2 hR hb3 hh h14 h13 hCC hbk ecs; subst e0)
        refine HR.out.mono ?_
        rintro e w3 (⟨rfl, hJ3, hk3⟩ | ⟨rfl, hx3⟩)
        · have HJ3 := Aside0.mk hJ3
          have HK3 := Aside0.mk hk3
          clear hJ3 hk3
          gi_wp2
          go_roundw
          case rel => exact ⟨k + 1, by omega, by go_num, ⟨kpR_t (kpR_t HK.out (kpR_below HB3.out (by omega))) HK3.out⟩, ⟨by rw [HU.out]; exact HJ3.out⟩, ⟨Nat.le_trans (Nat.le_trans hlw HB3.out.size) HK3.out.1⟩⟩
          case measure => simp [intOf]; omega
        · have HX3 := Aside0.mk hx3
          clear hx3
          gi_wp2
          refine bodyPost_ret (results_none rfl _ _ _) rfl ?_
          exact ⟨⟨_, rfl⟩, .inr ⟨uptoR l0 k ++ [i], by rw [← HU.out]; exact uptoR_le l0 (by omega), HX3.out⟩⟩
    · gi_wp2
      go_end0
      exact ⟨⟨_, rfl⟩, .inl ⟨uptoR l0 k, by rw [show k = m by omega], HJk.out⟩⟩
set_option maxHeartbeats 8000000 in
theorem counting_in (n : Nat) (a0 : Int) (A0 : Option Addr) (k0 c0 : Nat) (w : World) :
    CallsIn Fence.wide n Try.prog 34 #[.int .i64 a0, .slice A0 k0 c0] w fun e w' => e = .returned (.func (.func 44) #[] #[.pointer (some ⟨w.heap.size, 0, none⟩), .pointer (some ⟨w.heap.size + 1, 0, none⟩)]) ∧ w' = (w.alloc (.cells #[.int .i64 a0] 3)).alloc (.cells #[.slice A0 k0 c0] 22) := by
  refine callsIn_of_wp Try.func34 rfl trivial ?_ rfl
  simp only [Try.ntmps34, List.size_toArray, List.length_cons, List.length_nil, Nat.reduceAdd, Nat.reduceSub, Array.replicate_succ, Array.replicate_zero, List.push_toArray, List.append_toArray, List.nil_append, List.cons_append]
  gi_wp2
  go_ret
  exact ⟨rfl, rfl⟩
/-- the rows that were collected: each element's cells as they stood -/
def RowR (cs : Nat → Array Value) (i : Nat) (c : List Value) : Prop := c = (cs i).toList
theorem cellsR_size (x : S35) (A : Option Addr) (c : Nat) : (cellsR x A c).toList.length = 14 := rfl
theorem cellsR_one (x : S35) (A : Option Addr) (c : Nat) : ∀ u ∈ (cellsR x A c).toList, u.oneCell' = true := by
  intro u hu
  simp only [cellsR, List.mem_cons, List.not_mem_nil, or_false] at hu
  rcases hu with rfl | rfl | rfl | rfl | rfl | rfl | rfl | rfl | rfl | rfl | rfl | rfl | rfl | rfl <;> rfl
/-- the round's invariant: the variable out, its row, and what lay -/
def OutR (B : Nat) (cs : Nat → Array Value) (pre : List Nat) (W : World) : Prop := ∃ v, Boxed W B 22 v ∧ OwnRow (RowR cs) 35 14 W (B + 3) v pre
theorem ownRow_cells {α : Type} {R : α → List Value → Prop} {e size base : Nat} {X : World} {v : Value} {ps : List α} (h : OwnRow R e size X base v ps) {row : Option Nat} (hr : ∀ r, row = some r → ∃ o : Obj, X.heap[r]? = some o ∧ o.isCells = false) : v.ownBlock = none ∨ v.ownBlock ≠ row := by
  obtain ⟨inner, ho, _⟩ := h
  cases hv : v.ownBlock with
  | none => exact .inl rfl
  | some g =>
    refine .inr fun e' => ?_
    obtain ⟨cells, hc⟩ := own_typed ho g hv
    obtain ⟨o, h1, h2⟩ := hr g e'.symm
    rw [hc] at h1
    cases h1
    cases h2
theorem cell_kept' {X Y : World} {g : Nat} {cells : Array Value} {t : TypeId} (h : X.heap[g]? = some (.cells cells t (0, 0))) {row : Option Nat} (hg : X.grownBy Y row) (hr : ∀ r, row = some r → ∃ o : Obj, X.heap[r]? = some o ∧ o.isCells = false) : Y.heap[g]? = some (.cells cells t (0, 0)) := by
  refine (hg.block g (Array.getElem?_eq_some_iff.1 h).1 fun e => ?_).trans h
  obtain ⟨o, h1, h2⟩ := hr g e.symm
  rw [h] at h1
  cases h1
  cases h2
theorem outR_own (B : Nat) (cs : Nat → Array Value) : Own (OutR B cs) := by
  rintro s X Y row ⟨v, hv, hr⟩ hg hrow
  exact ⟨v, cell_kept' hv hg hrow, hr.other hg (ownRow_cells hr hrow)⟩
theorem cell_new_row (W : World) (t : TypeId) (l : List Value) : ∀ (j : Nat) (u : Value), l[j]? = some u → (W.alloc (.cells l.toArray t)).cell? ((⟨W.heap.size, 0, none⟩ : Addr).add j) = some u := by
  intro j u h
  rw [add_plain, blk_cell (heap_alloc_new W _) j]
  simpa using h
theorem own_lower' {w : World} {base base' : Nat} {e : TypeId} {size n : Nat} {v : Value} {xs : List Value} (h : w.ownsRow base e size v n xs) (hb : base' ≤ base) : w.ownsRow base' e size v n xs := by
  refine ⟨h.1, ?_⟩
  rcases h.2 with h2 | ⟨g, cap, cur, e1, e2, e3⟩
  · exact .inl h2
  · exact .inr ⟨g, cap, cur, e1, by omega, e3⟩
/-- one element more -/
theorem appendedR {w W w1 : World} {cs : Nat → Array Value} {pre : List Nat} {i : Nat} {v v' : Value} {inner : List Value} {tmp : Obj} (hB : Below w.heap.size w W) (hn : w.heap.size + 3 ≤ W.heap.size)
    (hv : Boxed W w.heap.size 22 v) (hrow : W.ownsRow (w.heap.size + 3) 35 14 v pre.length inner) (hr : Reps (RowR cs) 14 pre inner) (hl : (cs i).toList.length = 14)
    (hown' : w1.ownsRow (w.heap.size + 3) 35 14 v' (pre.length + 1) (inner ++ (cs i).toList)) (hgrow : (W.alloc tmp).grownBy w1 v.ownBlock) :
    Boxed w1 w.heap.size 22 v ∧ KeepsOthers W (w1.setCell ⟨w.heap.size, 0, none⟩ v') ∧ KpR (w.heap.size + 3) w.heap.size W (w1.setCell ⟨w.heap.size, 0, none⟩ v') ∧ OutR w.heap.size cs (pre ++ [i]) (w1.setCell ⟨w.heap.size, 0, none⟩ v') ∧ Below w.heap.size w (w1.setCell ⟨w.heap.size, 0, none⟩ v') := by
  have h1 := own_lower' (base' := w.heap.size) hrow (by omega)
  have h2 := own_lower' (base' := w.heap.size) hown' (by omega)
  obtain ⟨q1, q2, q3, q4, q5⟩ := Boxed.appended hv (by decide) h1 hB.size (Nat.le_refl _) h2 hgrow
  have hs1 : W.heap.size ≤ w1.heap.size := Nat.le_trans (by simp) hgrow.size
  refine ⟨q1, q4, ⟨by rw [World.size_setCell]; exact hs1, fun k hk hkB => ?_⟩, ⟨v', q2, inner ++ (cs i).toList, ?_, hr.snoc rfl hl⟩, hB.trans q5⟩
  · rw [Below.heap_setCell _ _ _ k hkB, hgrow.block k (by simp; omega) (fun e => ?_)]
    · exact Below.heap_alloc _ _ _ (by omega)
    · have := own_base hrow k e.symm
      omega
  · rw [List.length_append, List.length_singleton]
    exact hown'.kept (grownBy_setCell' w1 w.heap.size v') (.inr fun e => by
      cases h : v'.ownBlock with
      | none => rw [h] at e; cases e
      | some g => rw [h] at e; have := own_base hown' g h; injection e with e; omega)

/-- what is chosen: each element's slice -/
theorem chooseR {A0 : Option Addr} {w : World} {ok : Nat → Prop} {l0 : List S35} (hF : Kd.F k35 w ok A0 l0.length l0) :
    ∃ f : Nat → Option Addr × Nat, ∀ i : Nat, i < l0.length → ∃ ad, A0 = some ad ∧ ok ad.block ∧ Kd.FK k35 w ok (rd_T35 l0 (i : Int)) (cellsR (rd_T35 l0 (i : Int)) (f i).1 (f i).2).toList ∧ w.cell? (ad.add (i * 14 + 13)) = some (.slice (f i).1 (rd_T35 l0 (i : Int)).f1.f4.f1.length (f i).2) := by
  suffices key : ∀ i : Nat, ∃ p : Option Addr × Nat, i < l0.length → ∃ ad, A0 = some ad ∧ ok ad.block ∧ Kd.FK k35 w ok (rd_T35 l0 (i : Int)) (cellsR (rd_T35 l0 (i : Int)) p.1 p.2).toList ∧ w.cell? (ad.add (i * 14 + 13)) = some (.slice p.1 (rd_T35 l0 (i : Int)).f1.f4.f1.length p.2) from ⟨fun i => Classical.choose (key i), fun i => Classical.choose_spec (key i)⟩
  intro i
  by_cases hi : i < l0.length
  · obtain ⟨ad, c, e, hcl, hK, hcc, hok⟩ := Kd.F_get hF z35 (i : Int) (by omega) (by omega)
    obtain ⟨A13, c13, rfl, h1, h2⟩ := k35_openF hK
    refine ⟨(A13, c13), fun _ => ⟨ad, e, hok (by decide), hK, hcc 13 _ rfl⟩⟩
  · exact ⟨(none, 0), fun h => absurd h hi⟩
set_option maxHeartbeats 8000000 in
set_option maxRecDepth 100000 in
theorem collected_core (a0 : Int) (m : Nat) (hm7 : m ≤ 7) (hm : regain_bound.f a0 = some (m : Int)) (A1 : Option Addr) (c1 : Nat) (l1 : List S35) (w : World) (f : Nat → Option Addr × Nat) (hF : Kd.F k35 w (fun k => k < w.heap.size) A1 l1.length l1) (hc1 : l1.length ≤ c1)
    (hf : ∀ i : Nat, i < l1.length → ∃ ad, A1 = some ad ∧ ad.block < w.heap.size ∧ w.cell? (ad.add (i * 14 + 13)) = some (.slice (f i).1 (rd_T35 l1 (i : Int)).f1.f4.f1.length (f i).2)) :
    Calls Try.prog 19 #[.int .i64 a0, .slice A1 l1.length c1] w fun e w' => ∃ v, e = .returned v ∧ OwnRow (RowR fun i : Nat => cellsR (rd_T35 l1 (i : Int)) (f i).1 (f i).2) 35 14 w' (w.heap.size + 3) v (uptoR l1 m) ∧ Below w.heap.size w w' := by
  obtain ⟨cs, hcs⟩ : ∃ cs : Nat → Array Value, cs = fun i : Nat => cellsR (rd_T35 l1 (i : Int)) (f i).1 (f i).2 := ⟨_, rfl⟩
  rw [← hcs]
  have hb0 : Below w.heap.size w (w.alloc (.cells #[.slice none 0 0] 22)) := below_alloc (Below.refl _ _) _
  have hb3 : Below w.heap.size w (((w.alloc (.cells #[.slice none 0 0] 22)).alloc (.cells #[.int .i64 a0] 3)).alloc (.cells #[.slice A1 l1.length c1] 22)) := below_alloc (below_alloc hb0 _) _
  have hsz : (((w.alloc (.cells #[.slice none 0 0] 22)).alloc (.cells #[.int .i64 a0] 3)).alloc (.cells #[.slice A1 l1.length c1] 22)).heap.size = w.heap.size + 3 := by simp
  have HSTOPS := Aside0.mk (counting1_stops 4 (by omega) a0 m hm7 hm (w.heap.size + 3) w.heap.size (w.heap.size + 1) (w.heap.size + 2) _ A1 c1 l1 cs
    (by have := heap_alloc_new (w.alloc (.cells #[.slice none 0 0] 22)) (.cells #[.int .i64 a0] 3); rw [World.size_alloc] at this; exact blk_alloc this _)
    (by have := heap_alloc_new ((w.alloc (.cells #[.slice none 0 0] 22)).alloc (.cells #[.int .i64 a0] 3)) (.cells #[.slice A1 l1.length c1] 22); rw [World.size_alloc, World.size_alloc] at this; exact this)
    (by omega) (by omega) (by rw [hsz]; exact Nat.le_refl _) (Kd.F_mono (Kd.F_below hF hb3) (fun k hk => ⟨by omega, by omega⟩)) hc1
    (fun i hi => by
      obtain ⟨ad, e, hlt, hc⟩ := hf i hi
      exact ⟨ad, (f i).1, (f i).2, e, ⟨by omega, by omega⟩, by rw [hcs], pw_cell_below hb3 hc⟩))
  refine (callsIn_wide (n := 5)).1 ?_
  refine callsIn_of_wp_marks Try.func19 rfl trivial ?_ rfl
  simp only [Try.ntmps19, List.size_toArray, List.length_cons, List.length_nil, Nat.reduceAdd, Nat.reduceSub, Array.replicate_succ, Array.replicate_zero, List.push_toArray, List.append_toArray, List.nil_append, List.cons_append]
  gi_wp2_with (refine ⟨trivial, ?_⟩; gi_at_call 34; refine (counting_in 4 _ _ _ _ _).mono ?_; rintro e w' ⟨rfl, rfl⟩)
  clear hb0
  obtain ⟨i0, hi, hz0, hz1, hz2⟩ := info_parts info35
  have HI := Aside0.mk hi
  have HZ0 := Aside0.mk hz0
  clear hi hz0
  have huC := Try.underlying22
  refine wpIn_rangeFunc_ownH rfl (by omega) (gf := 44) (lb := #[.pointer (some ⟨w.heap.size + 1, 0, none⟩), .pointer (some ⟨w.heap.size + 1 + 1, 0, none⟩)]) rfl trivial (enters_ Try.func44 (by kernel_rfl) rfl) HSTOPS.out kpR_t
    (fun W l o o' hl _ _ _ => ⟨by simp, fun k hk _ => World.putObj_heap_other (by rw [hsz] at hl; omega)⟩) (Below.refl _ _) (fun _ => rfl)
    (fun pre W => (OutR w.heap.size cs pre W ∧ Below w.heap.size w W) ∧ w.heap.size + 3 ≤ W.heap.size) (fun _ _ _ => False)
    (OwnFrom.and (OwnFrom.and (Own.from (outR_own _ _) _) (ownFrom_below (Nat.le_refl _) (by rw [hsz]; omega))) (fun _ _ _ _ hs hg _ => Nat.le_trans hs hg.size))
    (fun _ _ _ _ _ hs _ _ => hs)
    ⟨⟨⟨_, blk_alloc (blk_alloc (heap_alloc_new w _) _) _, OwnRow.none_ _ _ _ _ _⟩, hb3⟩, by rw [hsz]; exact Nat.le_refl _⟩
    (fun x a' W => ∃ Bx, W.heap[Bx]? = some (.cells (cs x) 35 (0, 0)) ∧ a' = { tmps := #[.int .i64 a0, .slice A1 l1.length c1, undef, undef, .slice none 0 0, .pointer (some ⟨w.heap.size, 0, none⟩), .pointer (some ⟨Bx, 0, none⟩), .int .i64 a0, .slice A1 l1.length c1, .func (.func 44) #[] #[.pointer (some ⟨w.heap.size + 1, 0, none⟩), .pointer (some ⟨w.heap.size + 1 + 1, 0, none⟩)], .agg (cs x), undef, undef, undef, undef, undef], defers := [] })
    (fun x a' _ X Y row ⟨Bx, h1, h2⟩ hg hr => ⟨Bx, cell_kept' h1 hg (fun r e => (hr r e).2), h2⟩) ?assign ?body ?done ?stop
  case assign =>
    rintro l pre x W K ⟨⟨hO, hB⟩, hs⟩ hK
    have hx : cs x = cellsR (rd_T35 l1 (x : Int)) (f x).1 (f x).2 := by rw [hcs]
    have HO := Aside0.mk hO
    have HB := Aside0.mk hB
    have HKK := Aside0.mk hK
    clear hO hB hK
    simp only [hx, cellsR]
    gi_wp2
    exact HKK.out _ _ ((KeepsOthers.alloc W _).from _) (kpR_below (below_alloc (Below.refl _ _) _) hs) ⟨⟨outR_own _ _ _ _ _ none HO.out (World.grownBy_alloc W _ none) (fun _ h => by cases h), below_alloc HB.out _⟩, Nat.le_trans hs (by simp)⟩ ⟨W.heap.size, by rw [hx]; exact heap_alloc_new W _, by rw [hx]; rfl⟩
  case body =>
    rintro l pre x a' W hl hrec ⟨⟨⟨v, hv, inner, hrow, hr⟩, hB⟩, hs⟩ ⟨Bx, hbx, rfl⟩ hlt
    have hx : cs x = cellsR (rd_T35 l1 (x : Int)) (f x).1 (f x).2 := by rw [hcs]
    have hlen : pre.length < 7 := by
      have h1 : (uptoR l1 m).length ≤ m := Nat.le_trans (List.length_filterMap_le _ _) (by simp)
      omega
    have HX : Aside0 ((cs x).toList = [.int .i64 (rd_T35 l1 (x : Int)).f0, .int .i64 (rd_T35 l1 (x : Int)).f1.f0, .int .i64 (rd_T35 l1 (x : Int)).f1.f1.f0, .int .i64 (rd_T35 l1 (x : Int)).f1.f1.f1, .int .i64 (rd_T35 l1 (x : Int)).f1.f2.f0, .int .i64 (rd_T35 l1 (x : Int)).f1.f2.f1, .int .i64 (rd_T35 l1 (x : Int)).f1.f3.f0, .int .i64 (rd_T35 l1 (x : Int)).f1.f3.f1, .int .i64 (rd_T35 l1 (x : Int)).f1.f3.f2, .int .i64 (rd_T35 l1 (x : Int)).f1.f3.f3, .int .i64 (rd_T35 l1 (x : Int)).f1.f3.f4, .string (rd_T35 l1 (x : Int)).f1.f3.f5, .int .i64 (rd_T35 l1 (x : Int)).f1.f4.f0, .slice (f x).1 (rd_T35 l1 (x : Int)).f1.f4.f1.length (f x).2]) := ⟨by rw [hx]; rfl⟩
    simp only [hx, cellsR] at hbx ⊢
    obtain ⟨q0, q1, q2, q3, q4, q5, q6, q7, q8, q9, q10, q11, q12, q13⟩ := blk_cells14 hbx
    have hc := hv.cell
    have HV := Aside0.mk hv
    have HW := Aside0.mk hrow
    have HR := Aside0.mk hr
    have HB := Aside0.mk hB
    clear hv hrow hr hB hbx hrec
    gi_wp2_with (gi_at_builtin; refine wpListIn_append_own _ rfl _ _ 22 rfl (w.heap.size + 3) 35 i0 (.agg #[(.int .i64 0), (.int .i64 0), (.int .i64 0), (.int .i64 0), (.int .i64 0), (.int .i64 0), (.int .i64 0), (.int .i64 0), (.int .i64 0), (.int .i64 0), (.int .i64 0), (.string ⟨#[]⟩), (.int .i64 0), (.slice none 0 0)]) 14 136 huC HI.out HZ0.out hz1 hz2 rfl (by decide) v pre.length inner rfl (HW.out.alloc _) ⟨W.heap.size, 0, none⟩ 1 1 [.int .i64 (rd_T35 l1 (x : Int)).f0, .int .i64 (rd_T35 l1 (x : Int)).f1.f0, .int .i64 (rd_T35 l1 (x : Int)).f1.f1.f0, .int .i64 (rd_T35 l1 (x : Int)).f1.f1.f1, .int .i64 (rd_T35 l1 (x : Int)).f1.f2.f0, .int .i64 (rd_T35 l1 (x : Int)).f1.f2.f1, .int .i64 (rd_T35 l1 (x : Int)).f1.f3.f0, .int .i64 (rd_T35 l1 (x : Int)).f1.f3.f1, .int .i64 (rd_T35 l1 (x : Int)).f1.f3.f2, .int .i64 (rd_T35 l1 (x : Int)).f1.f3.f3, .int .i64 (rd_T35 l1 (x : Int)).f1.f3.f4, .string (rd_T35 l1 (x : Int)).f1.f3.f5, .int .i64 (rd_T35 l1 (x : Int)).f1.f4.f0, .slice (f x).1 (rd_T35 l1 (x : Int)).f1.f4.f1.length (f x).2] rfl rfl (cell_new_row W _ _) (fun u hu => cellsR_one _ _ _ u (by simpa [cellsR] using hu)) (by simp only [maxLen]; omega) (by omega) (by simp; omega) ?_; intro v' w1 hown' hgrow _; obtain ⟨g', cap', rfl⟩ := ownsRow_succ hown'; obtain ⟨k1, k2, k3, k4, k5⟩ := appendedR HB.out hs HV.out HW.out HR.out (by rw [HX.out]; rfl) (by rw [HX.out]; exact hown') hgrow; have hc1 := k1.cell; have hf1 := k1.frozen; have K2 := Aside0.mk k2; have K3 := Aside0.mk k3; have K4 := Aside0.mk k4; have K5 := Aside0.mk k5; clear k1 k2 k3 k4 k5 hgrow hown')
    exact ⟨K2.out.from _, K3.out, ⟨⟨K4.out, K5.out⟩, Nat.le_trans hs K3.out.1⟩⟩
  case done =>
    rintro D ys W hD rfl ⟨⟨⟨v, hv, hown⟩, hB⟩, hs⟩ hK
    have hc := hv.cell
    have HO := Aside0.mk hown
    have HB := Aside0.mk hB
    clear hown hB
    gi_wp2
    refine ⟨by simp, .inl ⟨_, _, rfl, run_takeDeferred hK, ?_⟩⟩
    exact ⟨_, results_tmp rfl _ _ _, v, rfl, HO.out.other (grownBy_putObj' W D _) (ownRow_cells HO.out (fun r e => by cases e; exact ⟨_, hK, rfl⟩)), HB.out.trans (belowK_b (w := w) (Nat.le_refl _) W D _ _ (by rw [hsz] at hD; omega) hK rfl rfl)⟩
  case stop =>
    rintro D c pre W _ _ h _
    exact h.elim
end
def regain_collected.f (n : Int) (l : List S35) : Option (List S35) := some ((uptoR l (mn (mx n 1) 7).toNat).map fun i : Nat => rd_T35 l (i : Int))
theorem regain_collected.calls (a0 : Int) (P1_ : Nat → Prop) (A1 : Option Addr) (c1 : Nat) (l1 : List (S35)) (r : List (S35)) (w : World) (hs1 : Kd.V k35 35 w w.heap.size (fun k_ => P1_ k_) (.slice A1 l1.length c1) l1) (h : regain_collected.f a0 l1 = some r) :
    Calls Try.prog 19 #[.int .i64 a0, .slice A1 l1.length c1] w fun e w' => ∃ v0_ : Value, e = .returned (v0_) ∧ Kd.N k35 35 w' w.heap.size (fun k_ => (P1_ k_ ∨ w.heap.size ≤ k_)) v0_ r ∧ Below w.heap.size w w' := by
  obtain rfl := Option.some.inj h
  clear h
  have hF0 := Kd.F_bound (Kd.V_F hs1)
  obtain ⟨f, hf⟩ := chooseR hF0
  have hm : regain_bound.f a0 = some (((mn (mx a0 1) 7).toNat : Nat) : Int) := by
    unfold regain_bound.f
    congr 1
    unfold mn mx; omega
  refine (collected_core a0 _ (by unfold mn mx; omega) hm A1 c1 l1 w f (Kd.F_mono hF0 fun _ hk => hk.2) (Kd.V_reads' hs1).2.1 (fun i hi => by obtain ⟨ad, e, hk, _, hc⟩ := hf i hi; exact ⟨ad, e, hk.2, hc⟩)).mono ?_
  rintro e w' ⟨v, rfl, hown, hb⟩
  obtain ⟨inner, ho, hr⟩ := hown.lower (base' := w.heap.size) (by omega)
  have hge : ∀ k, v.ownBlock = some k → w.heap.size ≤ k := own_base ho
  refine ⟨v, rfl, ⟨fun k hk => .inr (hge k hk), (uptoR l1 (mn (mx a0 1) 7).toNat).map (fun i : Nat => (cellsR (rd_T35 l1 (i : Int)) (f i).1 (f i).2).toList), by simp, ⟨fun k hk => hk.symm, inner, by rw [List.length_map]; exact ho, by rw [List.length_map]; exact hr.1, ?_⟩, ?_⟩, hb⟩
  · intro j p hj
    rw [List.getElem?_map] at hj
    obtain ⟨i, h1, rfl⟩ := Option.map_eq_some_iff.1 hj
    have e : List.take 14 (List.drop (j * 14) inner) = (cellsR (rd_T35 l1 (i : Int)) (f i).1 (f i).2).toList := hr.2 j i h1
    exact ⟨e, (congrArg List.length e).trans (cellsR_size _ _ _), fun u hu => cellsR_one _ _ _ u (e ▸ hu)⟩
  · intro j x c h1 h2
    rw [List.getElem?_map] at h1 h2
    obtain ⟨i, hi, rfl⟩ := Option.map_eq_some_iff.1 h1
    rw [hi, Option.map_some] at h2
    obtain rfl := Option.some.inj h2
    have hil : i < l1.length := by
      have hmem := List.mem_of_getElem? hi
      unfold uptoR at hmem
      obtain ⟨k, _, hk⟩ := List.mem_filterMap.1 hmem
      exact atR_lt hk
    obtain ⟨ad, _, _, hK, _⟩ := hf i hil
    exact Kd.FK_mono (Kd.FK_below hK hb) fun k hk => ⟨.inl hk.1, fun e => by have := hge k e.symm; omega⟩

end Go.Proofs.Ytomgiaakhpemaaa.P
