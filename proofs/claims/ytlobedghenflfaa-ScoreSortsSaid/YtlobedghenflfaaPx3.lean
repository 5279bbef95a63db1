/- Plain Lean functions and their contracts over the translation, written by a program of this session (myprint.py, over the kit's print); no condition but each contract's own. -/
import Derived.Test.YtlobedghenflfaaPx0
import Derived.Test.YtlobedghenflfaaPx1
import Derived.Test.YtlobedghenflfaaPx2
namespace Go.Proofs.Ytlobedghenflfaa.P
open Go.RowKit Go.Proofs.YtlobedghenflfaaW.PrintWords Go.Proofs.YtlobedghenflfaaW.PrintLast Go.Proofs.YtlobedghenflfaaW.PrintMore
attribute [local go_sem] max2_int min2_int max_two min_two max_three min_three max_four min_four   -- for this text's walks alone
set_option linter.unusedVariables false
set_option linter.unusedSimpArgs false

/-! ### colloquylaw13_ScoreSorts: function 4 -/
mutual
def colloquylaw13_ScoreSorts.j0 : Nat → List Int → Int → Bool → Bool → Option (Bool)
 | 0, _, _, _, _ => none
 | k + 1, x0, x1, x5, x18 => if x18 = true then (some x5) else ((score_Sort.f x0).bind fun t165 => (if (t165.length : Int) = (x0.length : Int) then (colloquylaw13_ScoreSorts.l0 k x0 x1 t165 0 0 0) else (some false)))
def colloquylaw13_ScoreSorts.l0 : Nat → List Int → Int → List Int → Int → Int → Int → Option (Bool)
 | 0, _, _, _, _, _, _ => none
 | k + 1, x0, x1, x6, x7, x8, x9 => if x9 < (x0.length : Int) then (if x9 > 0 then (if 0 ≤ (wrap64 (x9 - 1)) then (if (wrap64 (x9 - 1)) < (x6.length : Int) then (if 0 ≤ x9 then (if x9 < (x6.length : Int) then ((score_Cmp.f (rd x6 (wrap64 (x9 - 1))) (rd x6 x9)).bind fun t174 => (colloquylaw13_ScoreSorts.j2 k x0 x1 x6 x7 x8 x9 (decide (t174 > 0)))) else (none)) else (none)) else (none)) else (none)) else (colloquylaw13_ScoreSorts.j2 k x0 x1 x6 x7 x8 x9 false)) else ((score_Sort.f x6).bind fun t168 => ((colloquyref13_Same.f k t168 x6).bind fun t171 => (if t171 = true then (some (x7 == x8)) else (some false))))
def colloquylaw13_ScoreSorts.j2 : Nat → List Int → Int → List Int → Int → Int → Int → Bool → Option (Bool)
 | 0, _, _, _, _, _, _, _ => none
 | k + 1, x0, x1, x6, x7, x8, x9, x47 => if x47 = true then (some false) else (if 0 ≤ x9 then (if x9 < (x0.length : Int) then (if (rd x0 x9) = x1 then (if x9 < (x6.length : Int) then (if (rd x6 x9) = x1 then (colloquylaw13_ScoreSorts.l0 k x0 x1 x6 (wrap64 (x7 + 1)) (wrap64 (x8 + 1)) (wrap64 (x9 + 1))) else (colloquylaw13_ScoreSorts.l0 k x0 x1 x6 (wrap64 (x7 + 1)) x8 (wrap64 (x9 + 1)))) else (none)) else (if x9 < (x6.length : Int) then (if (rd x6 x9) = x1 then (colloquylaw13_ScoreSorts.l0 k x0 x1 x6 x7 (wrap64 (x8 + 1)) (wrap64 (x9 + 1))) else (colloquylaw13_ScoreSorts.l0 k x0 x1 x6 x7 x8 (wrap64 (x9 + 1)))) else (none))) else (none)) else (none))
end
def colloquylaw13_ScoreSorts.f (k : Nat) (l0 : List Int) (a1 : Int) : Option (Bool) := (colloquylaw13_awake.f).bind fun t164 => (if t164 = true then (colloquylaw13_ScoreSorts.j0 k l0 a1 t164 (decide ((l0.length : Int) > 60))) else (colloquylaw13_ScoreSorts.j0 k l0 a1 t164 true))
theorem colloquylaw13_ScoreSorts.mono_l : ∀ k, (∀ y0 y1 y2 y3, LeO (colloquylaw13_ScoreSorts.j0 k y0 y1 y2 y3) (colloquylaw13_ScoreSorts.j0 (k + 1) y0 y1 y2 y3)) ∧ (∀ y0 y1 y2 y3 y4 y5, LeO (colloquylaw13_ScoreSorts.l0 k y0 y1 y2 y3 y4 y5) (colloquylaw13_ScoreSorts.l0 (k + 1) y0 y1 y2 y3 y4 y5)) ∧ (∀ y0 y1 y2 y3 y4 y5 y6, LeO (colloquylaw13_ScoreSorts.j2 k y0 y1 y2 y3 y4 y5 y6) (colloquylaw13_ScoreSorts.j2 (k + 1) y0 y1 y2 y3 y4 y5 y6))
 | 0 => ⟨fun _ _ _ _ r h => by simp [colloquylaw13_ScoreSorts.j0] at h, fun _ _ _ _ _ _ r h => by simp [colloquylaw13_ScoreSorts.l0] at h, fun _ _ _ _ _ _ _ r h => by simp [colloquylaw13_ScoreSorts.j2] at h⟩
 | k + 1 => by
  obtain ⟨ih0, ih1, ih2⟩ := colloquylaw13_ScoreSorts.mono_l k
  refine ⟨?_, ?_, ?_⟩
  ·
   intro y0 y1 y2 y3
   unfold colloquylaw13_ScoreSorts.j0
   repeat' first
   | (with_reducible exact ih0 _ _ _ _)
   | (with_reducible exact ih1 _ _ _ _ _ _)
   | (with_reducible exact ih2 _ _ _ _ _ _ _)
   | (with_reducible exact colloquyref13_Same.mono _ _ _)
   | (with_reducible exact LeO.refl _)
   | (with_reducible exact LeO.none _)
   | (with_reducible refine LeO.ite ?_ ?_)
   | (with_reducible refine LeO.bind ?_ (fun _ => ?_))
   | exact ih0 _ _ _ _
   | exact ih1 _ _ _ _ _ _
   | exact ih2 _ _ _ _ _ _ _
   | exact colloquyref13_Same.mono _ _ _
   | exact LeO.none _
   | refine LeO.ite ?_ ?_
   | refine LeO.bind ?_ (fun _ => ?_)
  ·
   intro y0 y1 y2 y3 y4 y5
   unfold colloquylaw13_ScoreSorts.l0
   repeat' first
   | (with_reducible exact ih0 _ _ _ _)
   | (with_reducible exact ih1 _ _ _ _ _ _)
   | (with_reducible exact ih2 _ _ _ _ _ _ _)
   | (with_reducible exact colloquyref13_Same.mono _ _ _)
   | (with_reducible exact LeO.refl _)
   | (with_reducible exact LeO.none _)
   | (with_reducible refine LeO.ite ?_ ?_)
   | (with_reducible refine LeO.bind ?_ (fun _ => ?_))
   | exact ih0 _ _ _ _
   | exact ih1 _ _ _ _ _ _
   | exact ih2 _ _ _ _ _ _ _
   | exact colloquyref13_Same.mono _ _ _
   | exact LeO.none _
   | refine LeO.ite ?_ ?_
   | refine LeO.bind ?_ (fun _ => ?_)
  ·
   intro y0 y1 y2 y3 y4 y5 y6
   unfold colloquylaw13_ScoreSorts.j2
   repeat' first
   | (with_reducible exact ih0 _ _ _ _)
   | (with_reducible exact ih1 _ _ _ _ _ _)
   | (with_reducible exact ih2 _ _ _ _ _ _ _)
   | (with_reducible exact colloquyref13_Same.mono _ _ _)
   | (with_reducible exact LeO.refl _)
   | (with_reducible exact LeO.none _)
   | (with_reducible refine LeO.ite ?_ ?_)
   | (with_reducible refine LeO.bind ?_ (fun _ => ?_))
   | exact ih0 _ _ _ _
   | exact ih1 _ _ _ _ _ _
   | exact ih2 _ _ _ _ _ _ _
   | exact colloquyref13_Same.mono _ _ _
   | exact LeO.none _
   | refine LeO.ite ?_ ?_
   | refine LeO.bind ?_ (fun _ => ?_)
theorem colloquylaw13_ScoreSorts.mono : ∀ a0 a1 k, LeO (colloquylaw13_ScoreSorts.f k a0 a1) (colloquylaw13_ScoreSorts.f (k + 1) a0 a1) := by
 intro a0 a1 k
 obtain ⟨ih0, ih1, ih2⟩ := colloquylaw13_ScoreSorts.mono_l k
 unfold colloquylaw13_ScoreSorts.f
 repeat' first
   | (with_reducible exact ih0 _ _ _ _)
   | (with_reducible exact ih1 _ _ _ _ _ _)
   | (with_reducible exact ih2 _ _ _ _ _ _ _)
   | (with_reducible exact colloquyref13_Same.mono _ _ _)
   | (with_reducible exact LeO.refl _)
   | (with_reducible exact LeO.none _)
   | (with_reducible refine LeO.ite ?_ ?_)
   | (with_reducible refine LeO.bind ?_ (fun _ => ?_))
   | exact ih0 _ _ _ _
   | exact ih1 _ _ _ _ _ _
   | exact ih2 _ _ _ _ _ _ _
   | exact colloquyref13_Same.mono _ _ _
   | exact LeO.none _
   | refine LeO.ite ?_ ?_
   | refine LeO.bind ?_ (fun _ => ?_)
set_option maxHeartbeats 8000000 in
set_option maxRecDepth 100000 in
theorem colloquylaw13_ScoreSorts.calls (k : Nat) (A0 : Option Addr) (c0 : Nat) (l0 : List Int) (a1 : Int) (r : Bool) (w : World) (hr0 : Kd.C (Kd.int .u64) w A0 l0.length l0) (hc0 : l0.length ≤ c0) (hrt : r = true) (h : colloquylaw13_ScoreSorts.f k l0 a1 = some r) :
  Calls Try.prog 4 #[.slice A0 l0.length c0, .int .u64 a1] w fun e w' => e = .returned (.bool r) ∧ Below w.heap.size w w' := by
 have HRT := Aside0.mk hrt
 clear hrt
 have HR0 := Aside0.mk hr0
 have HC0 := Aside0.mk hc0
 clear hr0 hc0
 have HB := Aside0.mk (Below.refl w.heap.size w)
 have H : ((colloquylaw13_awake.f).bind fun t164 => (if t164 = true then (colloquylaw13_ScoreSorts.j0 k l0 a1 t164 (decide ((l0.length : Int) > 60))) else (colloquylaw13_ScoreSorts.j0 k l0 a1 t164 true))) = some r := h
 clear h
 replace H := Option.bind_eq_some_iff.mp H
 obtain ⟨t164, A30, H⟩ := H
 replace H : (if t164 = true then (colloquylaw13_ScoreSorts.j0 k l0 a1 t164 (decide ((l0.length : Int) > 60))) else (colloquylaw13_ScoreSorts.j0 k l0 a1 t164 true)) = some r := H
 have A3 := Aside0.mk A30
 clear A30
 have HC4 := Aside0.mk H
 clear H
 go_enter Try.func4, Try.ntmps4
 go_upto_region 2 with (first | (go_at_call 12; (with_reducible refine (colloquylaw13_awake.calls  t164 _ A3.out).mono ?_); rintro e w' ⟨rfl, ⟨nd, rfl⟩⟩; (try first | exact ⟨rfl, _, World.drewN_drewN _ _ _⟩ | exact ⟨rfl, _, Eq.trans (World.drewN_drewN _ _ _) (congrArg (World.drewN _) (Nat.add_assoc _ _ _))⟩)))
 repeat (go_quiet (first | (go_at_call 12; (with_reducible refine (colloquylaw13_awake.calls  t164 _ A3.out).mono ?_); rintro e w' ⟨rfl, ⟨nd, rfl⟩⟩; (try first | exact ⟨rfl, _, World.drewN_drewN _ _ _⟩ | exact ⟨rfl, _, Eq.trans (World.drewN_drewN _ _ _) (congrArg (World.drewN _) (Nat.add_assoc _ _ _))⟩))); go_upto_region 2 with (first | (go_at_call 12; (with_reducible refine (colloquylaw13_awake.calls  t164 _ A3.out).mono ?_); rintro e w' ⟨rfl, ⟨nd, rfl⟩⟩; (try first | exact ⟨rfl, _, World.drewN_drewN _ _ _⟩ | exact ⟨rfl, _, Eq.trans (World.drewN_drewN _ _ _) (congrArg (World.drewN _) (Nat.add_assoc _ _ _))⟩))))
 (try simp only [Act.put, List.setIfInBounds_toArray, List.set_cons_zero, List.set_cons_succ])
 go_cut [18] (fun v18 wc => ∃ (kq : Nat) (x18_3 : Bool), v18 = .bool x18_3 ∧ Aside0 (colloquylaw13_ScoreSorts.j0 kq l0 a1 t164 x18_3 = some r) ∧ Aside0 (kq ≤ k) ∧ Aside0 (Below w.heap.size w wc))
 case first =>
  have H := HC4.out
  clear HC4
  by_cases c5 : t164 = true
  ·
   subst c5
   have H1 : (colloquylaw13_ScoreSorts.j0 k l0 a1 true (decide ((l0.length : Int) > 60))) = some r := by rw [if_pos rfl] at H; exact H
   clear H
   have H := H1
   clear H1
   have H' := Aside0.mk H
   clear H
   go_wp2
   repeat (go_quiet (fail); try go_wp2)
   go_meet
   case rel => exact ⟨_, (decide ((l0.length : Int) > 60)), (by first | rfl | (simp; done) | (simp [*]; done)), H', ⟨by first | omega | exact Nat.le_refl _⟩, ⟨gw_ HB⟩⟩
  ·
   replace c5 := Bool.eq_false_iff.mpr c5
   subst c5
   have H1 : (colloquylaw13_ScoreSorts.j0 k l0 a1 false true) = some r := by rw [if_neg (show ¬ (false = true) by decide)] at H; exact H
   clear H
   have H := H1
   clear H1
   have H' := Aside0.mk H
   clear H
   go_wp2
   repeat (go_quiet (fail); try go_wp2)
   go_meet
   case rel => exact ⟨_, (true), (by first | rfl | (simp; done) | (simp [*]; done)), H', ⟨by first | omega | exact Nat.le_refl _⟩, ⟨gw_ HB⟩⟩
 case rest =>
  clear HC4
  try clear p2
  try clear c4
  try clear c5
  obtain ⟨kq, x18_3, rfl, HA, HJ3, HB⟩ := hcut
  cases kq with
  | zero => exact absurd HA.out (by simp [colloquylaw13_ScoreSorts.j0])
  | succ kj3 =>
   have H := HA.out
   clear HA
   simp only [colloquylaw13_ScoreSorts.j0] at H
   by_cases c6 : x18_3 = true
   ·
    subst c6
    have H1 : (some t164) = some r := by rw [if_pos rfl] at H; exact H
    clear H
    have H := H1
    clear H1
    obtain rfl := Option.some.inj H
    go_wp2
    repeat (go_quiet (fail); try go_wp2)
    go_ret
    exact ⟨by first | rfl | (simp [errW_none, errW_some] <;> rfl) | (simp [*, errW_none, errW_some] <;> rfl), gw_ HB⟩
   ·
    replace c6 := Bool.eq_false_iff.mpr c6
    subst c6
    have H1 : ((score_Sort.f l0).bind fun t165 => (if (t165.length : Int) = (l0.length : Int) then (colloquylaw13_ScoreSorts.l0 kj3 l0 a1 t165 0 0 0) else (some false))) = some r := by rw [if_neg (show ¬ (false = true) by decide)] at H; exact H
    clear H
    have H := H1
    clear H1
    replace H := Option.bind_eq_some_iff.mp H
    obtain ⟨t165, A70, H⟩ := H
    replace H : (if (t165.length : Int) = (l0.length : Int) then (colloquylaw13_ScoreSorts.l0 kj3 l0 a1 t165 0 0 0) else (some false)) = some r := H
    have A7 := Aside0.mk A70
    clear A70
    by_cases c8 : (t165.length : Int) = (l0.length : Int)
    ·
     rw [if_pos c8] at H
     have c8b0 : ((t165.length : Int) == (l0.length : Int)) = true := beq_iff_eq.mpr c8
     have c8b1 : ((t165.length : Int) != (l0.length : Int)) = false := bne_eq_false_iff_eq.mpr c8
     have c8b2 : (t165.length == l0.length) = true := by first | simpa using c8 | (simp at c8 ⊢; omega)
     clear c8
     have H' := Aside0.mk H
     clear H
     go_wp2_with (first | (go_at_call 16; (with_reducible refine (score_Sort.calls _ _ l0 t165 _ ?side1 ?side2 A7.out).mono ?_); (case side1 => repeat (first | exact (Kd.C_below HR0.out HB.out) | (with_reducible refine Kd.C_alloc ?_ _) | (with_reducible refine Kd.C_drewN ?_ _) | (with_reducible refine Kd.C_drew ?_))); (case side2 => exact HC0.out); rintro e w9 ⟨v166, rfl, ho0, hb⟩; have n0_ := Aside0.mk (Kd.R_lower ho0 (below_size (gw_ HB))); have n1_ := Aside0.mk (below_step (gw_ HB) hb); clear HB; have HO167 := n0_; have HB := n1_; clear n0_ n1_; (try clear hb); (try clear hb2); (try clear hk); (try clear hi); (try clear ho0); obtain ⟨Ao10, co10, eo10⟩ := Kd.R_slice HO167.out; subst eo10))
     repeat (go_quiet (first | (go_at_call 16; (with_reducible refine (score_Sort.calls _ _ l0 t165 _ ?side1 ?side2 A7.out).mono ?_); (case side1 => repeat (first | exact (Kd.C_below HR0.out HB.out) | (with_reducible refine Kd.C_alloc ?_ _) | (with_reducible refine Kd.C_drewN ?_ _) | (with_reducible refine Kd.C_drew ?_))); (case side2 => exact HC0.out); rintro e w9 ⟨v166, rfl, ho0, hb⟩; have n0_ := Aside0.mk (Kd.R_lower ho0 (below_size (gw_ HB))); have n1_ := Aside0.mk (below_step (gw_ HB) hb); clear HB; have HO167 := n0_; have HB := n1_; clear n0_ n1_; (try clear hb); (try clear hb2); (try clear hk); (try clear hi); (try clear ho0); obtain ⟨Ao10, co10, eo10⟩ := Kd.R_slice HO167.out; subst eo10)); try go_wp2_with (first | (go_at_call 16; (with_reducible refine (score_Sort.calls _ _ l0 t165 _ ?side1 ?side2 A7.out).mono ?_); (case side1 => repeat (first | exact (Kd.C_below HR0.out HB.out) | (with_reducible refine Kd.C_alloc ?_ _) | (with_reducible refine Kd.C_drewN ?_ _) | (with_reducible refine Kd.C_drew ?_))); (case side2 => exact HC0.out); rintro e w9 ⟨v166, rfl, ho0, hb⟩; have n0_ := Aside0.mk (Kd.R_lower ho0 (below_size (gw_ HB))); have n1_ := Aside0.mk (below_step (gw_ HB) hb); clear HB; have HO167 := n0_; have HB := n1_; clear n0_ n1_; (try clear hb); (try clear hb2); (try clear hk); (try clear hi); (try clear ho0); obtain ⟨Ao10, co10, eo10⟩ := Kd.R_slice HO167.out; subst eo10)))
     go_loopg [7, 8, 9] kj3 (fun kq v7 v8 v9 w' => ∃ (x7_2 : Int) (x8_2 : Int) (x9_2 : Int), v7 = .int .i64 x7_2 ∧ v8 = .int .i64 x8_2 ∧ v9 = .int .i64 x9_2 ∧ Aside0 (colloquylaw13_ScoreSorts.l0 kq l0 a1 t165 x7_2 x8_2 x9_2 = some r) ∧ Aside0 (kq ≤ kj3) ∧ Aside0 (Kd.R (Kd.int .u64) 22 w' w.heap.size (fun _ => True) (.slice Ao10 t165.length co10) t165) ∧ Aside0 (Below w.heap.size w w'))
     case atStart => exact ⟨(0), (0), (0), (by first | rfl | (simp; done) | (simp [*]; done)), (by first | rfl | (simp; done) | (simp [*]; done)), (by first | rfl | (simp; done) | (simp [*]; done)), H', ⟨Nat.le_refl _⟩, ⟨by (with_reducible repeat (first | apply Kd.R_alloc | apply Kd.R_drewN | apply Kd.R_drew)); exact HO167.out⟩, ⟨gw_ HB⟩⟩
     case round =>
      clear H'
      try clear p2
      try clear c4
      try clear c5
      try clear c6
      try clear c8
      try clear c8b0
      try clear c8b1
      try clear c8b2
      try clear p2
      obtain ⟨x7_2, x8_2, x9_2, rfl, rfl, rfl, HA, HK2, HO_6, HB⟩ := hrel
      cases gk with
      | zero => exact absurd HA.out (by simp [colloquylaw13_ScoreSorts.l0])
      | succ k2 =>
       have H := HA.out
       clear HA
       simp only [colloquylaw13_ScoreSorts.l0] at H
       by_cases c11 : x9_2 < (l0.length : Int)
       ·
        rw [if_pos c11] at H
        have c11b0 : decide (x9_2 < (l0.length : Int)) = true := decide_eq_true c11
        clear c11
        have HC12 := Aside0.mk H
        clear H
        go_upto_region 12 with (fail)
        repeat (go_quiet (fail); go_upto_region 12 with (fail))
        go_cut [47] (fun v47 wc => ∃ (kq : Nat) (x47_11 : Bool), v47 = .bool x47_11 ∧ Aside0 (colloquylaw13_ScoreSorts.j2 kq l0 a1 t165 x7_2 x8_2 x9_2 x47_11 = some r) ∧ Aside0 (kq ≤ k2) ∧ Aside0 (Kd.R (Kd.int .u64) 22 wc w.heap.size (fun _ => True) (.slice Ao10 t165.length co10) t165) ∧ Aside0 (Below w.heap.size w wc))
        case first =>
         have H := HC12.out
         clear HC12
         by_cases c13 : x9_2 > 0
         ·
          rw [if_pos c13] at H
          have c13b0 : decide (0 < x9_2) = true := decide_eq_true c13
          clear c13
          (first | rw [c13b0] | (simp only [i64_w, i32_w]; rw [c13b0]) | skip)
          obtain ⟨ji14, hji14⟩ : ∃ j_ : Int, (wrap64 (x9_2 - 1)) = j_ := ⟨_, rfl⟩
          replace H : (if 0 ≤ (ji14) then (if (ji14) < (t165.length : Int) then (if 0 ≤ x9_2 then (if x9_2 < (t165.length : Int) then ((score_Cmp.f (rd t165 (ji14)) (rd t165 x9_2)).bind fun t174 => (colloquylaw13_ScoreSorts.j2 k2 l0 a1 t165 x7_2 x8_2 x9_2 (decide (t174 > 0)))) else (none)) else (none)) else (none)) else (none)) = some r := by first | (rw [hji14] at H; exact H) | (simp only [hji14] at H ⊢; exact H)
          have hji14w : (IntKind.i64.wrap (x9_2 - 1)) = ji14 := (i64_w _).trans hji14
          by_cases c15 : 0 ≤ (ji14)
          ·
           rw [if_pos c15] at H
           have c15b0 : decide (0 ≤ (ji14)) = true := decide_eq_true c15
           clear c15
           by_cases c16 : (ji14) < (t165.length : Int)
           ·
            rw [if_pos c16] at H
            have c16b0 : decide ((ji14) < (t165.length : Int)) = true := decide_eq_true c16
            clear c16
            by_cases c17 : 0 ≤ x9_2
            ·
             rw [if_pos c17] at H
             have c17b0 : decide (0 ≤ x9_2) = true := decide_eq_true c17
             clear c17
             by_cases c18 : x9_2 < (t165.length : Int)
             ·
              rw [if_pos c18] at H
              have c18b0 : decide (x9_2 < (t165.length : Int)) = true := decide_eq_true c18
              clear c18
              replace H := Option.bind_eq_some_iff.mp H
              obtain ⟨t174, A190, H⟩ := H
              replace H : (colloquylaw13_ScoreSorts.j2 k2 l0 a1 t165 x7_2 x8_2 x9_2 (decide (t174 > 0))) = some r := H
              have A19 := Aside0.mk A190
              clear A190
              have H' := Aside0.mk H
              clear H
              have p172 : 0 ≤ ((ji14) : Int) := of_decide_eq_true (by first | (with_reducible assumption) | assumption)
              have q172 : (ji14) < (t165.length : Int) := of_decide_eq_true (by first | (with_reducible assumption) | assumption)
              obtain ⟨ad172, e172, hx172_0⟩ := Kd.at_int (Kd.R_reads' HO_6.out).2.2 (ji14) p172 q172
              cases e172
              replace p172 := eq_true p172
              replace q172 := eq_true q172
              have p173 : 0 ≤ (x9_2 : Int) := of_decide_eq_true (by first | (with_reducible assumption) | assumption)
              have q173 : x9_2 < (t165.length : Int) := of_decide_eq_true (by first | (with_reducible assumption) | assumption)
              obtain ⟨ad173, e173, hx173_0⟩ := Kd.at_int (Kd.R_reads' HO_6.out).2.2 x9_2 p173 q173
              obtain rfl : ad172 = ad173 := (by injection e173)
              replace p173 := eq_true p173
              replace q173 := eq_true q173
              go_wp2_with (first | (go_at_call 18; (with_reducible refine (score_Cmp.calls (rd t165 (ji14)) (rd t165 x9_2) t174 _ A19.out).mono ?_); rintro e w' ⟨rfl, ⟨nd, rfl⟩⟩; (try first | exact ⟨rfl, _, World.drewN_drewN _ _ _⟩ | exact ⟨rfl, _, Eq.trans (World.drewN_drewN _ _ _) (congrArg (World.drewN _) (Nat.add_assoc _ _ _))⟩)))
              repeat (go_quiet (first | (go_at_call 18; (with_reducible refine (score_Cmp.calls (rd t165 (ji14)) (rd t165 x9_2) t174 _ A19.out).mono ?_); rintro e w' ⟨rfl, ⟨nd, rfl⟩⟩; (try first | exact ⟨rfl, _, World.drewN_drewN _ _ _⟩ | exact ⟨rfl, _, Eq.trans (World.drewN_drewN _ _ _) (congrArg (World.drewN _) (Nat.add_assoc _ _ _))⟩))); try go_wp2_with (first | (go_at_call 18; (with_reducible refine (score_Cmp.calls (rd t165 (ji14)) (rd t165 x9_2) t174 _ A19.out).mono ?_); rintro e w' ⟨rfl, ⟨nd, rfl⟩⟩; (try first | exact ⟨rfl, _, World.drewN_drewN _ _ _⟩ | exact ⟨rfl, _, Eq.trans (World.drewN_drewN _ _ _) (congrArg (World.drewN _) (Nat.add_assoc _ _ _))⟩))))
              go_meet
              case rel => exact ⟨_, (decide (t174 > 0)), (by first | rfl | (simp; done) | (simp [*]; done)), H', ⟨by have := HJ3.out; have := HK2.out; first | omega | exact Nat.le_refl _⟩, ⟨by (with_reducible repeat (first | apply Kd.R_alloc | apply Kd.R_drewN | apply Kd.R_drew)); exact HO_6.out⟩, ⟨gw_ HB⟩⟩
             ·
              rw [if_neg c18] at H
              exact absurd H (by simp)
            ·
             rw [if_neg c17] at H
             exact absurd H (by simp)
           ·
            rw [if_neg c16] at H
            exact absurd H (by simp)
          ·
           rw [if_neg c15] at H
           exact absurd H (by simp)
         ·
          rw [if_neg c13] at H
          have c13b0 : decide (0 < x9_2) = false := decide_eq_false c13
          clear c13
          (first | rw [c13b0] | (simp only [i64_w, i32_w]; rw [c13b0]) | skip)
          have H' := Aside0.mk H
          clear H
          go_wp2
          repeat (go_quiet (fail); try go_wp2)
          go_meet
          case rel => exact ⟨_, (false), (by first | rfl | (simp; done) | (simp [*]; done)), H', ⟨by have := HJ3.out; have := HK2.out; first | omega | exact Nat.le_refl _⟩, ⟨by (with_reducible repeat (first | apply Kd.R_alloc | apply Kd.R_drewN | apply Kd.R_drew)); exact HO_6.out⟩, ⟨gw_ HB⟩⟩
        case rest =>
         clear HC12
         try clear c1
         try clear p1
         try clear q1
         try clear hx1
         try clear p2
         try clear c4
         try clear c5
         try clear c6
         try clear p6
         try clear c8
         try clear c8b0
         try clear c8b1
         try clear c8b2
         try clear c11
         try clear c11b0
         try clear c13
         try clear c13b0
         try clear c15
         try clear c15b0
         try clear c16
         try clear c16b0
         try clear c17
         try clear c17b0
         try clear p17
         try clear q17
         try clear hx17
         try clear c18
         try clear c18b0
         try clear hx172_0
         try clear hx173_0
         try clear p172
         try clear p173
         try clear p2
         try clear q172
         try clear q173
         obtain ⟨kq, x47_11, rfl, HA, HJ11, HO_6, HB⟩ := hcut
         cases kq with
         | zero => exact absurd HA.out (by simp [colloquylaw13_ScoreSorts.j2])
         | succ kj11 =>
          have H := HA.out
          clear HA
          simp only [colloquylaw13_ScoreSorts.j2] at H
          by_cases c20 : x47_11 = true
          ·
           subst c20
           have H1 : (some false) = some r := by rw [if_pos rfl] at H; exact H
           clear H
           have H := H1
           clear H1
           exact absurd (Option.some.inj H) (by rw [HRT.out]; decide)
          ·
           replace c20 := Bool.eq_false_iff.mpr c20
           subst c20
           have H1 : (if 0 ≤ x9_2 then (if x9_2 < (l0.length : Int) then (if (rd l0 x9_2) = a1 then (if x9_2 < (t165.length : Int) then (if (rd t165 x9_2) = a1 then (colloquylaw13_ScoreSorts.l0 kj11 l0 a1 t165 (wrap64 (x7_2 + 1)) (wrap64 (x8_2 + 1)) (wrap64 (x9_2 + 1))) else (colloquylaw13_ScoreSorts.l0 kj11 l0 a1 t165 (wrap64 (x7_2 + 1)) x8_2 (wrap64 (x9_2 + 1)))) else (none)) else (if x9_2 < (t165.length : Int) then (if (rd t165 x9_2) = a1 then (colloquylaw13_ScoreSorts.l0 kj11 l0 a1 t165 x7_2 (wrap64 (x8_2 + 1)) (wrap64 (x9_2 + 1))) else (colloquylaw13_ScoreSorts.l0 kj11 l0 a1 t165 x7_2 x8_2 (wrap64 (x9_2 + 1)))) else (none))) else (none)) else (none)) = some r := by rw [if_neg (show ¬ (false = true) by decide)] at H; exact H
           clear H
           have H := H1
           clear H1
           by_cases c21 : 0 ≤ x9_2
           ·
            rw [if_pos c21] at H
            have c21b0 : decide (0 ≤ x9_2) = true := decide_eq_true c21
            clear c21
            by_cases c22 : x9_2 < (l0.length : Int)
            ·
             rw [if_pos c22] at H
             have c22b0 : decide (x9_2 < (l0.length : Int)) = true := decide_eq_true c22
             clear c22
             by_cases c23 : (rd l0 x9_2) = a1
             ·
              rw [if_pos c23] at H
              have c23b0 : ((rd l0 x9_2) == a1) = true := beq_iff_eq.mpr c23
              have c23b1 : ((rd l0 x9_2) != a1) = false := bne_eq_false_iff_eq.mpr c23
              clear c23
              by_cases c24 : x9_2 < (t165.length : Int)
              ·
               rw [if_pos c24] at H
               have c24b0 : decide (x9_2 < (t165.length : Int)) = true := decide_eq_true c24
               clear c24
               by_cases c25 : (rd t165 x9_2) = a1
               ·
                rw [if_pos c25] at H
                have c25b0 : ((rd t165 x9_2) == a1) = true := beq_iff_eq.mpr c25
                have c25b1 : ((rd t165 x9_2) != a1) = false := bne_eq_false_iff_eq.mpr c25
                clear c25
                have H' := Aside0.mk H
                clear H
                have p175 : 0 ≤ (x9_2 : Int) := of_decide_eq_true (by first | (with_reducible assumption) | assumption)
                have q175 : x9_2 < (l0.length : Int) := of_decide_eq_true (by first | (with_reducible assumption) | assumption)
                obtain ⟨ad175, e175, hx175_0⟩ := Kd.at_int HR0.out x9_2 p175 q175
                cases e175
                replace hx175_0 := (HB.out.cell (World.block_lt_of_cell? w _ hx175_0)).trans hx175_0
                replace p175 := eq_true p175
                replace q175 := eq_true q175
                have p176 : 0 ≤ (x9_2 : Int) := of_decide_eq_true (by first | (with_reducible assumption) | assumption)
                have q176 : x9_2 < (t165.length : Int) := of_decide_eq_true (by first | (with_reducible assumption) | assumption)
                obtain ⟨ad176, e176, hx176_0⟩ := Kd.at_int (Kd.R_reads' HO_6.out).2.2 x9_2 p176 q176
                cases e176
                replace p176 := eq_true p176
                replace q176 := eq_true q176
                go_wp2
                repeat (go_quiet (fail); try go_wp2)
                go_roundg kj11
                case measure => have := HJ3.out; have := HK2.out; have := HJ11.out; omega
                case rel => exact ⟨(wrap64 (x7_2 + 1)), (wrap64 (x8_2 + 1)), (wrap64 (x9_2 + 1)), (by first | rfl | (simp; done) | (simp [*]; done)), (by first | rfl | (simp; done) | (simp [*]; done)), (by first | rfl | (simp; done) | (simp [*]; done)), H', ⟨by have := HJ3.out; have := HK2.out; have := HJ11.out; omega⟩, ⟨by (with_reducible repeat (first | apply Kd.R_alloc | apply Kd.R_drewN | apply Kd.R_drew)); exact HO_6.out⟩, ⟨gw_ HB⟩⟩
               ·
                rw [if_neg c25] at H
                have c25b0 : ((rd t165 x9_2) == a1) = false := beq_eq_false_iff_ne.mpr c25
                have c25b1 : ((rd t165 x9_2) != a1) = true := bne_iff_ne.mpr c25
                have H' := Aside0.mk H
                clear H
                have p175 : 0 ≤ (x9_2 : Int) := of_decide_eq_true (by first | (with_reducible assumption) | assumption)
                have q175 : x9_2 < (l0.length : Int) := of_decide_eq_true (by first | (with_reducible assumption) | assumption)
                obtain ⟨ad175, e175, hx175_0⟩ := Kd.at_int HR0.out x9_2 p175 q175
                cases e175
                replace hx175_0 := (HB.out.cell (World.block_lt_of_cell? w _ hx175_0)).trans hx175_0
                replace p175 := eq_true p175
                replace q175 := eq_true q175
                have p176 : 0 ≤ (x9_2 : Int) := of_decide_eq_true (by first | (with_reducible assumption) | assumption)
                have q176 : x9_2 < (t165.length : Int) := of_decide_eq_true (by first | (with_reducible assumption) | assumption)
                obtain ⟨ad176, e176, hx176_0⟩ := Kd.at_int (Kd.R_reads' HO_6.out).2.2 x9_2 p176 q176
                cases e176
                replace p176 := eq_true p176
                replace q176 := eq_true q176
                go_wp2
                repeat (go_quiet (fail); try go_wp2)
                go_roundg kj11
                case measure => have := HJ3.out; have := HK2.out; have := HJ11.out; omega
                case rel => exact ⟨(wrap64 (x7_2 + 1)), (x8_2), (wrap64 (x9_2 + 1)), (by first | rfl | (simp; done) | (simp [*]; done)), (by first | rfl | (simp; done) | (simp [*]; done)), (by first | rfl | (simp; done) | (simp [*]; done)), H', ⟨by have := HJ3.out; have := HK2.out; have := HJ11.out; omega⟩, ⟨by (with_reducible repeat (first | apply Kd.R_alloc | apply Kd.R_drewN | apply Kd.R_drew)); exact HO_6.out⟩, ⟨gw_ HB⟩⟩
              ·
               rw [if_neg c24] at H
               exact absurd H (by simp)
             ·
              rw [if_neg c23] at H
              have c23b0 : ((rd l0 x9_2) == a1) = false := beq_eq_false_iff_ne.mpr c23
              have c23b1 : ((rd l0 x9_2) != a1) = true := bne_iff_ne.mpr c23
              by_cases c26 : x9_2 < (t165.length : Int)
              ·
               rw [if_pos c26] at H
               have c26b0 : decide (x9_2 < (t165.length : Int)) = true := decide_eq_true c26
               clear c26
               by_cases c27 : (rd t165 x9_2) = a1
               ·
                rw [if_pos c27] at H
                have c27b0 : ((rd t165 x9_2) == a1) = true := beq_iff_eq.mpr c27
                have c27b1 : ((rd t165 x9_2) != a1) = false := bne_eq_false_iff_eq.mpr c27
                clear c27
                have H' := Aside0.mk H
                clear H
                have p175 : 0 ≤ (x9_2 : Int) := of_decide_eq_true (by first | (with_reducible assumption) | assumption)
                have q175 : x9_2 < (l0.length : Int) := of_decide_eq_true (by first | (with_reducible assumption) | assumption)
                obtain ⟨ad175, e175, hx175_0⟩ := Kd.at_int HR0.out x9_2 p175 q175
                cases e175
                replace hx175_0 := (HB.out.cell (World.block_lt_of_cell? w _ hx175_0)).trans hx175_0
                replace p175 := eq_true p175
                replace q175 := eq_true q175
                have p177 : 0 ≤ (x9_2 : Int) := of_decide_eq_true (by first | (with_reducible assumption) | assumption)
                have q177 : x9_2 < (t165.length : Int) := of_decide_eq_true (by first | (with_reducible assumption) | assumption)
                obtain ⟨ad177, e177, hx177_0⟩ := Kd.at_int (Kd.R_reads' HO_6.out).2.2 x9_2 p177 q177
                cases e177
                replace p177 := eq_true p177
                replace q177 := eq_true q177
                go_wp2
                repeat (go_quiet (fail); try go_wp2)
                go_roundg kj11
                case measure => have := HJ3.out; have := HK2.out; have := HJ11.out; omega
                case rel => exact ⟨(x7_2), (wrap64 (x8_2 + 1)), (wrap64 (x9_2 + 1)), (by first | rfl | (simp; done) | (simp [*]; done)), (by first | rfl | (simp; done) | (simp [*]; done)), (by first | rfl | (simp; done) | (simp [*]; done)), H', ⟨by have := HJ3.out; have := HK2.out; have := HJ11.out; omega⟩, ⟨by (with_reducible repeat (first | apply Kd.R_alloc | apply Kd.R_drewN | apply Kd.R_drew)); exact HO_6.out⟩, ⟨gw_ HB⟩⟩
               ·
                rw [if_neg c27] at H
                have c27b0 : ((rd t165 x9_2) == a1) = false := beq_eq_false_iff_ne.mpr c27
                have c27b1 : ((rd t165 x9_2) != a1) = true := bne_iff_ne.mpr c27
                have H' := Aside0.mk H
                clear H
                have p175 : 0 ≤ (x9_2 : Int) := of_decide_eq_true (by first | (with_reducible assumption) | assumption)
                have q175 : x9_2 < (l0.length : Int) := of_decide_eq_true (by first | (with_reducible assumption) | assumption)
                obtain ⟨ad175, e175, hx175_0⟩ := Kd.at_int HR0.out x9_2 p175 q175
                cases e175
                replace hx175_0 := (HB.out.cell (World.block_lt_of_cell? w _ hx175_0)).trans hx175_0
                replace p175 := eq_true p175
                replace q175 := eq_true q175
                have p177 : 0 ≤ (x9_2 : Int) := of_decide_eq_true (by first | (with_reducible assumption) | assumption)
                have q177 : x9_2 < (t165.length : Int) := of_decide_eq_true (by first | (with_reducible assumption) | assumption)
                obtain ⟨ad177, e177, hx177_0⟩ := Kd.at_int (Kd.R_reads' HO_6.out).2.2 x9_2 p177 q177
                cases e177
                replace p177 := eq_true p177
                replace q177 := eq_true q177
                go_wp2
                repeat (go_quiet (fail); try go_wp2)
                go_roundg kj11
                case measure => have := HJ3.out; have := HK2.out; have := HJ11.out; omega
                case rel => exact ⟨(x7_2), (x8_2), (wrap64 (x9_2 + 1)), (by first | rfl | (simp; done) | (simp [*]; done)), (by first | rfl | (simp; done) | (simp [*]; done)), (by first | rfl | (simp; done) | (simp [*]; done)), H', ⟨by have := HJ3.out; have := HK2.out; have := HJ11.out; omega⟩, ⟨by (with_reducible repeat (first | apply Kd.R_alloc | apply Kd.R_drewN | apply Kd.R_drew)); exact HO_6.out⟩, ⟨gw_ HB⟩⟩
              ·
               rw [if_neg c26] at H
               exact absurd H (by simp)
            ·
             rw [if_neg c22] at H
             exact absurd H (by simp)
           ·
            rw [if_neg c21] at H
            exact absurd H (by simp)
       ·
        rw [if_neg c11] at H
        have c11b0 : decide (x9_2 < (l0.length : Int)) = false := decide_eq_false c11
        clear c11
        replace H := Option.bind_eq_some_iff.mp H
        obtain ⟨t168, A280, H⟩ := H
        replace H : ((colloquyref13_Same.f k2 t168 t165).bind fun t171 => (if t171 = true then (some (x7_2 == x8_2)) else (some false))) = some r := H
        have A28 := Aside0.mk A280
        clear A280
        replace H := Option.bind_eq_some_iff.mp H
        obtain ⟨t171, A290, H⟩ := H
        replace H : (if t171 = true then (some (x7_2 == x8_2)) else (some false)) = some r := H
        have A29 := Aside0.mk A290
        clear A290
        by_cases c30 : t171 = true
        ·
         subst c30
         have H1 : (some (x7_2 == x8_2)) = some r := by rw [if_pos rfl] at H; exact H
         clear H
         have H := H1
         clear H1
         obtain rfl := Option.some.inj H
         go_wp2_with (first | (go_at_call 16; (with_reducible refine (score_Sort.calls _ _ t165 t168 _ ?side1 ?side2 A28.out).mono ?_); (case side1 => repeat (first | exact (Kd.R_reads' HO_6.out).2.2 | (with_reducible refine Kd.C_alloc ?_ _) | (with_reducible refine Kd.C_drewN ?_ _) | (with_reducible refine Kd.C_drew ?_))); (case side2 => exact (Kd.R_reads' HO_6.out).2.1); rintro e w31 ⟨v169, rfl, ho0, hb⟩; have n0_ := Aside0.mk (Kd.R_elder' (Kd.rk HO_6) (Kd.R_base ho0) hb); have n1_ := Aside0.mk (Kd.R_lower (Kd.R_new' ho0 (Kd.R_lt (Kd.rk HO_6))) (below_size (gw_ HB))); have n2_ := Aside0.mk (below_step (gw_ HB) hb); clear HO_6; clear HB; have HO_6 := n0_; have HO170 := n1_; have HB := n2_; clear n0_ n1_ n2_; (try clear hb); (try clear hb2); (try clear hk); (try clear hi); (try clear ho0); obtain ⟨Ao32, co32, eo32⟩ := Kd.R_slice HO170.out; subst eo32) | (go_at_call 15; (with_reducible refine (colloquyref13_Same.calls k2 _ _ t168 _ _ t165 true _ ?side1 ?side2 ?side3 ?side4 A29.out).mono ?_); (case side1 => repeat (first | exact (Kd.R_reads' HO170.out).2.2 | (with_reducible refine Kd.C_alloc ?_ _) | (with_reducible refine Kd.C_drewN ?_ _) | (with_reducible refine Kd.C_drew ?_))); (case side2 => exact (Kd.R_reads' HO170.out).2.1); (case side3 => repeat (first | exact (Kd.R_reads' HO_6.out).2.2 | (with_reducible refine Kd.C_alloc ?_ _) | (with_reducible refine Kd.C_drewN ?_ _) | (with_reducible refine Kd.C_drew ?_))); (case side4 => exact (Kd.R_reads' HO_6.out).2.1); rintro e w' ⟨rfl, ⟨nd, rfl⟩⟩; (try first | exact ⟨rfl, _, World.drewN_drewN _ _ _⟩ | exact ⟨rfl, _, Eq.trans (World.drewN_drewN _ _ _) (congrArg (World.drewN _) (Nat.add_assoc _ _ _))⟩)))
         repeat (go_quiet (first | (go_at_call 16; (with_reducible refine (score_Sort.calls _ _ t165 t168 _ ?side1 ?side2 A28.out).mono ?_); (case side1 => repeat (first | exact (Kd.R_reads' HO_6.out).2.2 | (with_reducible refine Kd.C_alloc ?_ _) | (with_reducible refine Kd.C_drewN ?_ _) | (with_reducible refine Kd.C_drew ?_))); (case side2 => exact (Kd.R_reads' HO_6.out).2.1); rintro e w31 ⟨v169, rfl, ho0, hb⟩; have n0_ := Aside0.mk (Kd.R_elder' (Kd.rk HO_6) (Kd.R_base ho0) hb); have n1_ := Aside0.mk (Kd.R_lower (Kd.R_new' ho0 (Kd.R_lt (Kd.rk HO_6))) (below_size (gw_ HB))); have n2_ := Aside0.mk (below_step (gw_ HB) hb); clear HO_6; clear HB; have HO_6 := n0_; have HO170 := n1_; have HB := n2_; clear n0_ n1_ n2_; (try clear hb); (try clear hb2); (try clear hk); (try clear hi); (try clear ho0); obtain ⟨Ao32, co32, eo32⟩ := Kd.R_slice HO170.out; subst eo32) | (go_at_call 15; (with_reducible refine (colloquyref13_Same.calls k2 _ _ t168 _ _ t165 true _ ?side1 ?side2 ?side3 ?side4 A29.out).mono ?_); (case side1 => repeat (first | exact (Kd.R_reads' HO170.out).2.2 | (with_reducible refine Kd.C_alloc ?_ _) | (with_reducible refine Kd.C_drewN ?_ _) | (with_reducible refine Kd.C_drew ?_))); (case side2 => exact (Kd.R_reads' HO170.out).2.1); (case side3 => repeat (first | exact (Kd.R_reads' HO_6.out).2.2 | (with_reducible refine Kd.C_alloc ?_ _) | (with_reducible refine Kd.C_drewN ?_ _) | (with_reducible refine Kd.C_drew ?_))); (case side4 => exact (Kd.R_reads' HO_6.out).2.1); rintro e w' ⟨rfl, ⟨nd, rfl⟩⟩; (try first | exact ⟨rfl, _, World.drewN_drewN _ _ _⟩ | exact ⟨rfl, _, Eq.trans (World.drewN_drewN _ _ _) (congrArg (World.drewN _) (Nat.add_assoc _ _ _))⟩))); try go_wp2_with (first | (go_at_call 16; (with_reducible refine (score_Sort.calls _ _ t165 t168 _ ?side1 ?side2 A28.out).mono ?_); (case side1 => repeat (first | exact (Kd.R_reads' HO_6.out).2.2 | (with_reducible refine Kd.C_alloc ?_ _) | (with_reducible refine Kd.C_drewN ?_ _) | (with_reducible refine Kd.C_drew ?_))); (case side2 => exact (Kd.R_reads' HO_6.out).2.1); rintro e w31 ⟨v169, rfl, ho0, hb⟩; have n0_ := Aside0.mk (Kd.R_elder' (Kd.rk HO_6) (Kd.R_base ho0) hb); have n1_ := Aside0.mk (Kd.R_lower (Kd.R_new' ho0 (Kd.R_lt (Kd.rk HO_6))) (below_size (gw_ HB))); have n2_ := Aside0.mk (below_step (gw_ HB) hb); clear HO_6; clear HB; have HO_6 := n0_; have HO170 := n1_; have HB := n2_; clear n0_ n1_ n2_; (try clear hb); (try clear hb2); (try clear hk); (try clear hi); (try clear ho0); obtain ⟨Ao32, co32, eo32⟩ := Kd.R_slice HO170.out; subst eo32) | (go_at_call 15; (with_reducible refine (colloquyref13_Same.calls k2 _ _ t168 _ _ t165 true _ ?side1 ?side2 ?side3 ?side4 A29.out).mono ?_); (case side1 => repeat (first | exact (Kd.R_reads' HO170.out).2.2 | (with_reducible refine Kd.C_alloc ?_ _) | (with_reducible refine Kd.C_drewN ?_ _) | (with_reducible refine Kd.C_drew ?_))); (case side2 => exact (Kd.R_reads' HO170.out).2.1); (case side3 => repeat (first | exact (Kd.R_reads' HO_6.out).2.2 | (with_reducible refine Kd.C_alloc ?_ _) | (with_reducible refine Kd.C_drewN ?_ _) | (with_reducible refine Kd.C_drew ?_))); (case side4 => exact (Kd.R_reads' HO_6.out).2.1); rintro e w' ⟨rfl, ⟨nd, rfl⟩⟩; (try first | exact ⟨rfl, _, World.drewN_drewN _ _ _⟩ | exact ⟨rfl, _, Eq.trans (World.drewN_drewN _ _ _) (congrArg (World.drewN _) (Nat.add_assoc _ _ _))⟩))))
         go_ret
         exact ⟨by first | rfl | (simp [errW_none, errW_some] <;> rfl) | (simp [*, errW_none, errW_some] <;> rfl), gw_ HB⟩
        ·
         replace c30 := Bool.eq_false_iff.mpr c30
         subst c30
         have H1 : (some false) = some r := by rw [if_neg (show ¬ (false = true) by decide)] at H; exact H
         clear H
         have H := H1
         clear H1
         exact absurd (Option.some.inj H) (by rw [HRT.out]; decide)
    ·
     rw [if_neg c8] at H
     have c8b0 : ((t165.length : Int) == (l0.length : Int)) = false := beq_eq_false_iff_ne.mpr c8
     have c8b1 : ((t165.length : Int) != (l0.length : Int)) = true := bne_iff_ne.mpr c8
     have c8b2 : (t165.length == l0.length) = false := by first | simpa using c8 | (simp at c8 ⊢; omega)
     exact absurd (Option.some.inj H) (by rw [HRT.out]; decide)

/-- THE ONE PURE STATEMENT of colloquylaw13_ScoreSorts: yours. -/
def colloquylaw13_ScoreSorts.Pure : Prop := ∀ (l0 : List Int) (a1 : Int), l0.length ≤ maxLen → l0.length * 8 ≤ 140737488351232 → (∀ x ∈ l0, (Lit.int .u64 x).wf = true) → (Lit.int .u64 a1).wf = true → ∃ k, colloquylaw13_ScoreSorts.f k l0 a1 = some true
theorem colloquylaw13_ScoreSorts.walk (P : colloquylaw13_ScoreSorts.Pure) (a0 : Option Addr) (len0 cap0 : Nat) (z0 : List Int) (a1 : Int) (w : World) (w0 : (a0 = none ∧ len0 = 0 ∧ cap0 = 0 ∧ z0 = []) ∨ ∃ x, a0 = some x ∧ len0 ≤ cap0 ∧ cap0 ≤ maxLen ∧ z0.length = cap0 ∧ (∀ i, i < z0.length → w.cell? (x.add i) = some (.int .u64 (z0.getD i 0))) ∧ ∀ n ∈ z0, (Lit.int .u64 n).wf = true) (y0 : len0 * 8 ≤ 140737488351232) (w1 : (Lit.int .u64 a1).wf = true) :
  Calls Try.prog 4 #[.slice a0 len0 cap0, .int .u64 a1] w fun e w' => e = .returned (.bool true) ∧ Below w.heap.size w w' := by
 obtain ⟨l0, rfl, hr0, hm0, hw0, hc0⟩ := ReadsInt.ofRowC w0
 obtain ⟨k, h⟩ := P l0 a1 hm0 y0 hw0 w1
 refine (colloquylaw13_ScoreSorts.calls k _ _ l0 a1 true w (Kd.C_of_reads (d := (0 : Int)) (h1 := fun _ => rfl) hr0) hc0 rfl h).mono ?_
 rintro e w' ⟨rfl, hd⟩
 exact ⟨rfl, hd⟩

/-! ### colloquylaw13_ScoreFloors: function 5 -/
def colloquylaw13_ScoreFloors.j0 : Nat → Int → Int → Bool → Bool → Option (Bool)
 | 0, _, _, _, _ => none
 | k + 1, x0, x1, x5, x31 => if x31 = true then (some x5) else ((score_Quotient.f x0 x1).bind fun t179 => ((score_Floor.f t179).bind fun bt180 => (if bt180.2 = true then (if (wrap64 (bt180.1 * x1)) ≤ x0 then (some (decide ((wrap64 ((wrap64 (bt180.1 + 1)) * x1)) > x0))) else (some false)) else (some false))))
def colloquylaw13_ScoreFloors.f (k : Nat) (a0 : Int) (a1 : Int) : Option (Bool) := (colloquylaw13_awake.f).bind fun t178 => (if t178 = true then (if a0 < (-67108864) then (colloquylaw13_ScoreFloors.j0 k a0 a1 t178 true) else (if a0 > 67108864 then (colloquylaw13_ScoreFloors.j0 k a0 a1 t178 true) else (if a1 < 1 then (colloquylaw13_ScoreFloors.j0 k a0 a1 t178 true) else (colloquylaw13_ScoreFloors.j0 k a0 a1 t178 (decide (a1 > 67108864)))))) else (colloquylaw13_ScoreFloors.j0 k a0 a1 t178 true))
theorem colloquylaw13_ScoreFloors.mono_l : ∀ k, (∀ y0 y1 y2 y3, LeO (colloquylaw13_ScoreFloors.j0 k y0 y1 y2 y3) (colloquylaw13_ScoreFloors.j0 (k + 1) y0 y1 y2 y3))
 | 0 => fun _ _ _ _ r h => by simp [colloquylaw13_ScoreFloors.j0] at h
 | k + 1 => by
  have ih0 := colloquylaw13_ScoreFloors.mono_l k
  ·
   intro y0 y1 y2 y3
   unfold colloquylaw13_ScoreFloors.j0
   repeat' first
   | (with_reducible exact ih0 _ _ _ _)
   | (with_reducible exact LeO.refl _)
   | (with_reducible exact LeO.none _)
   | (with_reducible refine LeO.ite ?_ ?_)
   | (with_reducible refine LeO.bind ?_ (fun _ => ?_))
   | exact ih0 _ _ _ _
   | exact LeO.none _
   | refine LeO.ite ?_ ?_
   | refine LeO.bind ?_ (fun _ => ?_)
theorem colloquylaw13_ScoreFloors.mono : ∀ a0 a1 k, LeO (colloquylaw13_ScoreFloors.f k a0 a1) (colloquylaw13_ScoreFloors.f (k + 1) a0 a1) := by
 intro a0 a1 k
 have ih0 := colloquylaw13_ScoreFloors.mono_l k
 unfold colloquylaw13_ScoreFloors.f
 repeat' first
   | (with_reducible exact ih0 _ _ _ _)
   | (with_reducible exact LeO.refl _)
   | (with_reducible exact LeO.none _)
   | (with_reducible refine LeO.ite ?_ ?_)
   | (with_reducible refine LeO.bind ?_ (fun _ => ?_))
   | exact ih0 _ _ _ _
   | exact LeO.none _
   | refine LeO.ite ?_ ?_
   | refine LeO.bind ?_ (fun _ => ?_)
set_option maxHeartbeats 8000000 in
set_option maxRecDepth 100000 in
theorem colloquylaw13_ScoreFloors.calls (k : Nat) (a0 : Int) (a1 : Int) (r : Bool) (w : World) (hrt : r = true) (h : colloquylaw13_ScoreFloors.f k a0 a1 = some r) :
  Calls Try.prog 5 #[.int .i64 a0, .int .i64 a1] w fun e w' => e = .returned (.bool r) ∧ Drawn0 w w' := by
 have HRT := Aside0.mk hrt
 clear hrt
 have H : ((colloquylaw13_awake.f).bind fun t178 => (if t178 = true then (if a0 < (-67108864) then (colloquylaw13_ScoreFloors.j0 k a0 a1 t178 true) else (if a0 > 67108864 then (colloquylaw13_ScoreFloors.j0 k a0 a1 t178 true) else (if a1 < 1 then (colloquylaw13_ScoreFloors.j0 k a0 a1 t178 true) else (colloquylaw13_ScoreFloors.j0 k a0 a1 t178 (decide (a1 > 67108864)))))) else (colloquylaw13_ScoreFloors.j0 k a0 a1 t178 true))) = some r := h
 clear h
 replace H := Option.bind_eq_some_iff.mp H
 obtain ⟨t178, A30, H⟩ := H
 replace H : (if t178 = true then (if a0 < (-67108864) then (colloquylaw13_ScoreFloors.j0 k a0 a1 t178 true) else (if a0 > 67108864 then (colloquylaw13_ScoreFloors.j0 k a0 a1 t178 true) else (if a1 < 1 then (colloquylaw13_ScoreFloors.j0 k a0 a1 t178 true) else (colloquylaw13_ScoreFloors.j0 k a0 a1 t178 (decide (a1 > 67108864)))))) else (colloquylaw13_ScoreFloors.j0 k a0 a1 t178 true)) = some r := H
 have A3 := Aside0.mk A30
 clear A30
 have HC4 := Aside0.mk H
 clear H
 go_enter Try.func5, Try.ntmps5
 go_upto_region 3 with (first | ((with_reducible refine gate_callee (f := 12) rfl ?_); refine goesL_ (some 9) rfl rfl Try.func12 (by kernel_rfl) rfl #[] rfl (by (try simp only [List.map_toArray, List.map_cons, List.map_nil]); first | done | rfl | (simp only [List.length_drop, List.length_take]; rfl)) ?_; (with_reducible refine (colloquylaw13_awake.calls  t178 _ A3.out).mono ?_); rintro e w' ⟨rfl, ⟨nd, rfl⟩⟩; refine ⟨_, rfl, ?_⟩))
 (try simp only [Act.put, List.setIfInBounds_toArray, List.set_cons_zero, List.set_cons_succ])
 go_cut [31] (fun v31 wc => ∃ (kq : Nat) (x31_3 : Bool), v31 = .bool x31_3 ∧ Aside0 (colloquylaw13_ScoreFloors.j0 kq a0 a1 t178 x31_3 = some r) ∧ Aside0 (kq ≤ k) ∧ Drawn0 w wc)
 case first =>
  have H := HC4.out
  clear HC4
  by_cases c5 : t178 = true
  ·
   subst c5
   have H1 : (if a0 < (-67108864) then (colloquylaw13_ScoreFloors.j0 k a0 a1 true true) else (if a0 > 67108864 then (colloquylaw13_ScoreFloors.j0 k a0 a1 true true) else (if a1 < 1 then (colloquylaw13_ScoreFloors.j0 k a0 a1 true true) else (colloquylaw13_ScoreFloors.j0 k a0 a1 true (decide (a1 > 67108864)))))) = some r := by rw [if_pos rfl] at H; exact H
   clear H
   have H := H1
   clear H1
   by_cases c6 : a0 < (-67108864)
   ·
    rw [if_pos c6] at H
    have c6b0 : decide (a0 < (-67108864)) = true := decide_eq_true c6
    clear c6
    (first | rw [c6b0] | (simp only [i64_w, i32_w]; rw [c6b0]) | skip)
    have H' := Aside0.mk H
    clear H
    go_wp2
    go_meet
    case rel => exact ⟨_, (true), (by first | rfl | (simp; done) | (simp [*]; done)), H', ⟨by first | omega | exact Nat.le_refl _⟩, by repeat (first | exact Drawn0.refl _ | apply Drawn0.step)⟩
   ·
    rw [if_neg c6] at H
    have c6b0 : decide (a0 < (-67108864)) = false := decide_eq_false c6
    clear c6
    (first | rw [c6b0] | (simp only [i64_w, i32_w]; rw [c6b0]) | skip)
    by_cases c7 : a0 > 67108864
    ·
     rw [if_pos c7] at H
     have c7b0 : decide (67108864 < a0) = true := decide_eq_true c7
     clear c7
     have H' := Aside0.mk H
     clear H
     go_wp2
     go_meet
     case rel => exact ⟨_, (true), (by first | rfl | (simp; done) | (simp [*]; done)), H', ⟨by first | omega | exact Nat.le_refl _⟩, by repeat (first | exact Drawn0.refl _ | apply Drawn0.step)⟩
    ·
     rw [if_neg c7] at H
     have c7b0 : decide (67108864 < a0) = false := decide_eq_false c7
     clear c7
     by_cases c8 : a1 < 1
     ·
      rw [if_pos c8] at H
      have c8b0 : decide (a1 < 1) = true := decide_eq_true c8
      clear c8
      have H' := Aside0.mk H
      clear H
      go_wp2
      go_meet
      case rel => exact ⟨_, (true), (by first | rfl | (simp; done) | (simp [*]; done)), H', ⟨by first | omega | exact Nat.le_refl _⟩, by repeat (first | exact Drawn0.refl _ | apply Drawn0.step)⟩
     ·
      rw [if_neg c8] at H
      have c8b0 : decide (a1 < 1) = false := decide_eq_false c8
      clear c8
      have H' := Aside0.mk H
      clear H
      go_wp2
      go_meet
      case rel => exact ⟨_, (decide (a1 > 67108864)), (by first | rfl | (simp; done) | (simp [*]; done)), H', ⟨by first | omega | exact Nat.le_refl _⟩, by repeat (first | exact Drawn0.refl _ | apply Drawn0.step)⟩
  ·
   replace c5 := Bool.eq_false_iff.mpr c5
   subst c5
   have H1 : (colloquylaw13_ScoreFloors.j0 k a0 a1 false true) = some r := by rw [if_neg (show ¬ (false = true) by decide)] at H; exact H
   clear H
   have H := H1
   clear H1
   have H' := Aside0.mk H
   clear H
   go_wp2
   go_meet
   case rel => exact ⟨_, (true), (by first | rfl | (simp; done) | (simp [*]; done)), H', ⟨by first | omega | exact Nat.le_refl _⟩, by repeat (first | exact Drawn0.refl _ | apply Drawn0.step)⟩
 case rest =>
  clear HC4
  try clear c1
  try clear p2
  try clear c5
  try clear c6
  try clear c6b0
  try clear c7
  try clear c7b0
  try clear c8
  try clear c8b0
  obtain ⟨kq, x31_3, rfl, HA, HJ3, ⟨mc3, rfl⟩⟩ := hcut
  cases kq with
  | zero => exact absurd HA.out (by simp [colloquylaw13_ScoreFloors.j0])
  | succ kj3 =>
   have H := HA.out
   clear HA
   simp only [colloquylaw13_ScoreFloors.j0] at H
   by_cases c9 : x31_3 = true
   ·
    subst c9
    have H1 : (some t178) = some r := by rw [if_pos rfl] at H; exact H
    clear H
    have H := H1
    clear H1
    obtain rfl := Option.some.inj H
    go_wp2
    go_ret
    exact ⟨by first | rfl | (simp; done) | (simp [*]; done), by repeat (first | exact Drawn0.refl _ | apply Drawn0.step)⟩
   ·
    replace c9 := Bool.eq_false_iff.mpr c9
    subst c9
    have H1 : ((score_Quotient.f a0 a1).bind fun t179 => ((score_Floor.f t179).bind fun bt180 => (if bt180.2 = true then (if (wrap64 (bt180.1 * a1)) ≤ a0 then (some (decide ((wrap64 ((wrap64 (bt180.1 + 1)) * a1)) > a0))) else (some false)) else (some false)))) = some r := by rw [if_neg (show ¬ (false = true) by decide)] at H; exact H
    clear H
    have H := H1
    clear H1
    replace H := Option.bind_eq_some_iff.mp H
    obtain ⟨t179, A100, H⟩ := H
    replace H : ((score_Floor.f t179).bind fun bt180 => (if bt180.2 = true then (if (wrap64 (bt180.1 * a1)) ≤ a0 then (some (decide ((wrap64 ((wrap64 (bt180.1 + 1)) * a1)) > a0))) else (some false)) else (some false))) = some r := H
    have A10 := Aside0.mk A100
    clear A100
    replace H := Option.bind_eq_some_iff.mp H
    obtain ⟨⟨t180, t181⟩, A110, H⟩ := H
    replace H : (if t181 = true then (if (wrap64 (t180 * a1)) ≤ a0 then (some (decide ((wrap64 ((wrap64 (t180 + 1)) * a1)) > a0))) else (some false)) else (some false)) = some r := H
    have A11 := Aside0.mk A110
    clear A110
    by_cases c12 : t181 = true
    ·
     subst c12
     have H1 : (if (wrap64 (t180 * a1)) ≤ a0 then (some (decide ((wrap64 ((wrap64 (t180 + 1)) * a1)) > a0))) else (some false)) = some r := by rw [if_pos rfl] at H; exact H
     clear H
     have H := H1
     clear H1
     by_cases c13 : (wrap64 (t180 * a1)) ≤ a0
     ·
      rw [if_pos c13] at H
      have c13b0 : decide ((wrap64 (t180 * a1)) ≤ a0) = true := decide_eq_true c13
      clear c13
      obtain rfl := Option.some.inj H
      go_wp2_with (first | ((with_reducible refine gate_callee (f := 20) rfl ?_); refine goesL_ (some 36) rfl rfl Try.func20 (by kernel_rfl) rfl #[.int .i64 a0, .int .i64 a1] rfl (by (try simp only [List.map_toArray, List.map_cons, List.map_nil]); first | done | rfl | (simp only [List.length_drop, List.length_take]; rfl)) ?_; (with_reducible refine (score_Quotient.calls a0 a1 t179 _ A10.out).mono ?_); rintro e w' ⟨rfl, ⟨nd, rfl⟩⟩; refine ⟨_, rfl, ?_⟩) | ((with_reducible refine gate_callee (f := 13) rfl ?_); refine goesL_ (some 37) rfl rfl Try.func13 (by kernel_rfl) rfl #[.int .u64 t179] rfl (by (try simp only [List.map_toArray, List.map_cons, List.map_nil]); first | done | rfl | (simp only [List.length_drop, List.length_take]; rfl)) ?_; (with_reducible refine (score_Floor.calls t179 t180 true _ A11.out).mono ?_); rintro e w' ⟨rfl, ⟨nd, rfl⟩⟩; refine ⟨_, rfl, ?_⟩))
      go_ret
      exact ⟨by first | rfl | (simp; done) | (simp [*]; done), by repeat (first | exact Drawn0.refl _ | apply Drawn0.step)⟩
     ·
      rw [if_neg c13] at H
      have c13b0 : decide ((wrap64 (t180 * a1)) ≤ a0) = false := decide_eq_false c13
      clear c13
      exact absurd (Option.some.inj H) (by rw [HRT.out]; decide)
    ·
     replace c12 := Bool.eq_false_iff.mpr c12
     subst c12
     have H1 : (some false) = some r := by rw [if_neg (show ¬ (false = true) by decide)] at H; exact H
     clear H
     have H := H1
     clear H1
     exact absurd (Option.some.inj H) (by rw [HRT.out]; decide)

/-- THE ONE PURE STATEMENT of colloquylaw13_ScoreFloors: yours. -/
def colloquylaw13_ScoreFloors.Pure : Prop := ∀ (a0 : Int) (a1 : Int), (Lit.int .i64 a0).wf = true → (Lit.int .i64 a1).wf = true → ∃ k, colloquylaw13_ScoreFloors.f k a0 a1 = some true
theorem colloquylaw13_ScoreFloors.walk (P : colloquylaw13_ScoreFloors.Pure) (a0 : Int) (a1 : Int) (w : World) (w0 : (Lit.int .i64 a0).wf = true) (w1 : (Lit.int .i64 a1).wf = true) :
  Calls Try.prog 5 #[.int .i64 a0, .int .i64 a1] w fun e w' => e = .returned (.bool true) ∧ Below w.heap.size w w' := by
 obtain ⟨k, h⟩ := P a0 a1 w0 w1
 refine (colloquylaw13_ScoreFloors.calls k a0 a1 true w rfl h).mono ?_
 rintro e w' ⟨rfl, hd⟩
 exact ⟨rfl, hd.below⟩

end Go.Proofs.Ytlobedghenflfaa.P
