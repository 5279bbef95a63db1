/- Plain Lean functions and their contracts over the translation, written by a program of this session (myprint.py, over the kit's print); no condition but each contract's own. -/
import Derived.Test.YtlobedghenflfaaPx0
import Derived.Test.YtlobedghenflfaaPx1
namespace Go.Proofs.Ytlobedghenflfaa.P
open Go.RowKit Go.Proofs.YtlobedghenflfaaW.PrintWords Go.Proofs.YtlobedghenflfaaW.PrintLast Go.Proofs.YtlobedghenflfaaW.PrintMore
attribute [local go_sem] max2_int min2_int max_two min_two max_three min_three max_four min_four   -- for this text's walks alone
set_option linter.unusedVariables false
set_option linter.unusedSimpArgs false

/-! ### colloquyref13_Sort: function 17 -/
mutual
def colloquyref13_Sort.l0 : Nat → List Int → List Int → Int → Option (List Int)
 | 0, _, _, _ => none
 | k + 1, x0, x3, x4 => if x4 < (x0.length : Int) then (colloquyref13_Sort.l1 k x0 x3 x4 (x3.length : Int)) else (some x3)
def colloquyref13_Sort.l1 : Nat → List Int → List Int → Int → Int → Option (List Int)
 | 0, _, _, _, _ => none
 | k + 1, x0, x3, x4, x5 => if x5 > 0 then (if 0 ≤ x4 then (if x4 < (x0.length : Int) then (if 0 ≤ (wrap64 (x5 - 1)) then (if (wrap64 (x5 - 1)) < (x3.length : Int) then ((colloquyref13_Cmp.f (rd x0 x4) (rd x3 (wrap64 (x5 - 1)))).bind fun t113 => (if t113 < 0 then (colloquyref13_Sort.l1 k x0 x3 x4 (wrap64 (x5 - 1))) else (if 0 ≤ x5 then (if x5 ≤ (x3.length : Int) then ((some (x3.take (x5 : Int).toNat : List Int)).bind fun y114 => (if ([] : List Int).length + y114.length < 17592186044416 then ((some (([] : List Int) ++ y114 : List Int)).bind fun y118 => (if y118.length < 17592186044416 then ((some (y118 ++ [rd x0 x4] : List Int)).bind fun y122 => ((some (x3.drop (x5 : Int).toNat : List Int)).bind fun y125 => (if y122.length + y125.length < 17592186044416 then (colloquyref13_Sort.l0 k x0 (y122 ++ y125) (wrap64 (x4 + 1))) else (none)))) else (none))) else (none))) else (none)) else (none)))) else (none)) else (none)) else (none)) else (none)) else (if 0 ≤ x5 then (if x5 ≤ (x3.length : Int) then ((some (x3.take (x5 : Int).toNat : List Int)).bind fun y132 => (if ([] : List Int).length + y132.length < 17592186044416 then ((some (([] : List Int) ++ y132 : List Int)).bind fun y136 => (if 0 ≤ x4 then (if x4 < (x0.length : Int) then (if y136.length < 17592186044416 then ((some (y136 ++ [rd x0 x4] : List Int)).bind fun y140 => ((some (x3.drop (x5 : Int).toNat : List Int)).bind fun y143 => (if y140.length + y143.length < 17592186044416 then (colloquyref13_Sort.l0 k x0 (y140 ++ y143) (wrap64 (x4 + 1))) else (none)))) else (none)) else (none)) else (none))) else (none))) else (none)) else (none))
end
def colloquyref13_Sort.f (k : Nat) (l0 : List Int) : Option (List Int) := colloquyref13_Sort.l0 k l0 ([] : List Int) 0
theorem colloquyref13_Sort.mono_l : ∀ k, (∀ y0 y1 y2, LeO (colloquyref13_Sort.l0 k y0 y1 y2) (colloquyref13_Sort.l0 (k + 1) y0 y1 y2)) ∧ (∀ y0 y1 y2 y3, LeO (colloquyref13_Sort.l1 k y0 y1 y2 y3) (colloquyref13_Sort.l1 (k + 1) y0 y1 y2 y3))
 | 0 => ⟨fun _ _ _ r h => by simp [colloquyref13_Sort.l0] at h, fun _ _ _ _ r h => by simp [colloquyref13_Sort.l1] at h⟩
 | k + 1 => by
  obtain ⟨ih0, ih1⟩ := colloquyref13_Sort.mono_l k
  refine ⟨?_, ?_⟩
  ·
   intro y0 y1 y2
   unfold colloquyref13_Sort.l0
   repeat' first
   | (with_reducible exact ih0 _ _ _)
   | (with_reducible exact ih1 _ _ _ _)
   | (with_reducible exact LeO.refl _)
   | (with_reducible exact LeO.none _)
   | (with_reducible refine LeO.ite ?_ ?_)
   | (with_reducible refine LeO.bind ?_ (fun _ => ?_))
   | exact ih0 _ _ _
   | exact ih1 _ _ _ _
   | exact LeO.none _
   | refine LeO.ite ?_ ?_
   | refine LeO.bind ?_ (fun _ => ?_)
  ·
   intro y0 y1 y2 y3
   unfold colloquyref13_Sort.l1
   repeat' first
   | (with_reducible exact ih0 _ _ _)
   | (with_reducible exact ih1 _ _ _ _)
   | (with_reducible exact LeO.refl _)
   | (with_reducible exact LeO.none _)
   | (with_reducible refine LeO.ite ?_ ?_)
   | (with_reducible refine LeO.bind ?_ (fun _ => ?_))
   | exact ih0 _ _ _
   | exact ih1 _ _ _ _
   | exact LeO.none _
   | refine LeO.ite ?_ ?_
   | refine LeO.bind ?_ (fun _ => ?_)
theorem colloquyref13_Sort.mono : ∀ a0 k, LeO (colloquyref13_Sort.f k a0) (colloquyref13_Sort.f (k + 1) a0) := by
 intro a0 k
 obtain ⟨ih0, ih1⟩ := colloquyref13_Sort.mono_l k
 unfold colloquyref13_Sort.f
 repeat' first
   | (with_reducible exact ih0 _ _ _)
   | (with_reducible exact ih1 _ _ _ _)
   | (with_reducible exact LeO.refl _)
   | (with_reducible exact LeO.none _)
   | (with_reducible refine LeO.ite ?_ ?_)
   | (with_reducible refine LeO.bind ?_ (fun _ => ?_))
   | exact ih0 _ _ _
   | exact ih1 _ _ _ _
   | exact LeO.none _
   | refine LeO.ite ?_ ?_
   | refine LeO.bind ?_ (fun _ => ?_)
set_option maxHeartbeats 8000000 in
set_option maxRecDepth 100000 in
theorem colloquyref13_Sort.calls (k : Nat) (A0 : Option Addr) (c0 : Nat) (l0 : List Int) (r : List Int) (w : World) (hr0 : Kd.C (Kd.int .u64) w A0 l0.length l0) (hc0 : l0.length ≤ c0) (h : colloquyref13_Sort.f k l0 = some r) :
  Calls Try.prog 17 #[.slice A0 l0.length c0] w fun e w' => ∃ v0_ : Value, e = .returned (v0_) ∧ Kd.R (Kd.int .u64) 22 w' w.heap.size (fun _ => True) v0_ r ∧ Below w.heap.size w w' := by
 have HR0 := Aside0.mk hr0
 have HC0 := Aside0.mk hc0
 clear hr0 hc0
 have HB := Aside0.mk (Below.refl w.heap.size w)
 have H : (colloquyref13_Sort.l0 k l0 ([] : List Int) 0) = some r := h
 clear h
 have H' := Aside0.mk H
 clear H
 go_enter Try.func17, Try.ntmps17
 go_wp2
 repeat (go_quiet (fail); try go_wp2)
 go_loopg [3, 4] k (fun kq v3 v4 w' => ∃ (x3_1 : List Int) (x4_1 : Int), v4 = .int .i64 x4_1 ∧ Aside0 (colloquyref13_Sort.l0 kq l0 x3_1 x4_1 = some r) ∧ Aside0 (kq ≤ k) ∧ Aside0 (Kd.R (Kd.int .u64) 22 w' w.heap.size (fun _ => True) v3 x3_1) ∧ Aside0 (Below w.heap.size w w'))
 case atStart => exact ⟨(([] : List Int)), (0), (by first | rfl | (simp; done) | (simp [*]; done)), H', ⟨Nat.le_refl _⟩, ⟨by first | exact Kd.R_nil _ _ _ _ _ | exact Kd.N_nil _ _ _ _ _ | exact Kd.V_nil _ _ _ _ _ | exact Kd.Q_nil _ _ _ _ _ | exact Kd.S_nil _ _ _ _ _⟩, ⟨gw_ HB⟩⟩
 case round =>
  clear H'
  try clear c1
  obtain ⟨x3_1, x4_1, rfl, HA, HK1, HO_3, HB⟩ := hrel
  cases gk with
  | zero => exact absurd HA.out (by simp [colloquyref13_Sort.l0])
  | succ k1 =>
   have H := HA.out
   clear HA
   simp only [colloquyref13_Sort.l0] at H
   by_cases c2 : x4_1 < (l0.length : Int)
   ·
    rw [if_pos c2] at H
    have c2b0 : decide (x4_1 < (l0.length : Int)) = true := decide_eq_true c2
    clear c2
    have H' := Aside0.mk H
    clear H
    obtain ⟨Ao3, co3, eo3⟩ := Kd.R_slice HO_3.out
    subst eo3
    go_wp2
    repeat (go_quiet (fail); try go_wp2)
    go_loopg [5] k1 (fun kq v5 w' => ∃ (x5_2 : Int), v5 = .int .i64 x5_2 ∧ Aside0 (colloquyref13_Sort.l1 kq l0 x3_1 x4_1 x5_2 = some r) ∧ Aside0 (kq ≤ k1) ∧ Aside0 (Kd.R (Kd.int .u64) 22 w' w.heap.size (fun _ => True) (.slice Ao3 x3_1.length co3) x3_1) ∧ Aside0 (Below w.heap.size w w'))
    case atStart => exact ⟨((x3_1.length : Int)), (by first | rfl | (simp; done) | (simp [*]; done)), H', ⟨Nat.le_refl _⟩, ⟨by (with_reducible repeat (first | apply Kd.R_alloc | apply Kd.R_drewN | apply Kd.R_drew)); exact HO_3.out⟩, ⟨gw_ HB⟩⟩
    case round =>
     clear H'
     try clear c1
     try clear c2
     try clear c2b0
     try clear p2
     obtain ⟨x5_2, rfl, HA, HK2, HO_3, HB⟩ := hrel
     cases gk with
     | zero => exact absurd HA.out (by simp [colloquyref13_Sort.l1])
     | succ k2 =>
      have H := HA.out
      clear HA
      simp only [colloquyref13_Sort.l1] at H
      by_cases c4 : x5_2 > 0
      ·
       rw [if_pos c4] at H
       have c4b0 : decide (0 < x5_2) = true := decide_eq_true c4
       clear c4
       by_cases c5 : 0 ≤ x4_1
       ·
        rw [if_pos c5] at H
        have c5b0 : decide (0 ≤ x4_1) = true := decide_eq_true c5
        clear c5
        by_cases c6 : x4_1 < (l0.length : Int)
        ·
         rw [if_pos c6] at H
         have c6b0 : decide (x4_1 < (l0.length : Int)) = true := decide_eq_true c6
         clear c6
         obtain ⟨ji7, hji7⟩ : ∃ j_ : Int, (wrap64 (x5_2 - 1)) = j_ := ⟨_, rfl⟩
         replace H : (if 0 ≤ (ji7) then (if (ji7) < (x3_1.length : Int) then ((colloquyref13_Cmp.f (rd l0 x4_1) (rd x3_1 (ji7))).bind fun t113 => (if t113 < 0 then (colloquyref13_Sort.l1 k2 l0 x3_1 x4_1 ji7) else (if 0 ≤ x5_2 then (if x5_2 ≤ (x3_1.length : Int) then ((some (x3_1.take (x5_2 : Int).toNat : List Int)).bind fun y114 => (if ([] : List Int).length + y114.length < 17592186044416 then ((some (([] : List Int) ++ y114 : List Int)).bind fun y118 => (if y118.length < 17592186044416 then ((some (y118 ++ [rd l0 x4_1] : List Int)).bind fun y122 => ((some (x3_1.drop (x5_2 : Int).toNat : List Int)).bind fun y125 => (if y122.length + y125.length < 17592186044416 then (colloquyref13_Sort.l0 k2 l0 (y122 ++ y125) (wrap64 (x4_1 + 1))) else (none)))) else (none))) else (none))) else (none)) else (none)))) else (none)) else (none)) = some r := by first | (rw [hji7] at H; exact H) | (simp only [hji7] at H ⊢; exact H)
         have hji7w : (IntKind.i64.wrap (x5_2 - 1)) = ji7 := (i64_w _).trans hji7
         by_cases c8 : 0 ≤ (ji7)
         ·
          rw [if_pos c8] at H
          have c8b0 : decide (0 ≤ (ji7)) = true := decide_eq_true c8
          clear c8
          by_cases c9 : (ji7) < (x3_1.length : Int)
          ·
           rw [if_pos c9] at H
           have c9b0 : decide ((ji7) < (x3_1.length : Int)) = true := decide_eq_true c9
           clear c9
           replace H := Option.bind_eq_some_iff.mp H
           obtain ⟨t113, A100, H⟩ := H
           replace H : (if t113 < 0 then (colloquyref13_Sort.l1 k2 l0 x3_1 x4_1 ji7) else (if 0 ≤ x5_2 then (if x5_2 ≤ (x3_1.length : Int) then ((some (x3_1.take (x5_2 : Int).toNat : List Int)).bind fun y114 => (if ([] : List Int).length + y114.length < 17592186044416 then ((some (([] : List Int) ++ y114 : List Int)).bind fun y118 => (if y118.length < 17592186044416 then ((some (y118 ++ [rd l0 x4_1] : List Int)).bind fun y122 => ((some (x3_1.drop (x5_2 : Int).toNat : List Int)).bind fun y125 => (if y122.length + y125.length < 17592186044416 then (colloquyref13_Sort.l0 k2 l0 (y122 ++ y125) (wrap64 (x4_1 + 1))) else (none)))) else (none))) else (none))) else (none)) else (none))) = some r := H
           have A10 := Aside0.mk A100
           clear A100
           by_cases c11 : t113 < 0
           ·
            rw [if_pos c11] at H
            have c11b0 : decide (t113 < 0) = true := decide_eq_true c11
            clear c11
            have H' := Aside0.mk H
            clear H
            have p111 : 0 ≤ (x4_1 : Int) := of_decide_eq_true (by first | (with_reducible assumption) | assumption)
            have q111 : x4_1 < (l0.length : Int) := of_decide_eq_true (by first | (with_reducible assumption) | assumption)
            obtain ⟨ad111, e111, hx111_0⟩ := Kd.at_int HR0.out x4_1 p111 q111
            cases e111
            replace hx111_0 := (HB.out.cell (World.block_lt_of_cell? w _ hx111_0)).trans hx111_0
            replace p111 := eq_true p111
            replace q111 := eq_true q111
            have p112 : 0 ≤ ((ji7) : Int) := of_decide_eq_true (by first | (with_reducible assumption) | assumption)
            have q112 : (ji7) < (x3_1.length : Int) := of_decide_eq_true (by first | (with_reducible assumption) | assumption)
            obtain ⟨ad112, e112, hx112_0⟩ := Kd.at_int (Kd.R_reads' HO_3.out).2.2 (ji7) p112 q112
            cases e112
            replace p112 := eq_true p112
            replace q112 := eq_true q112
            go_wp2_with (first | (go_at_call 19; (with_reducible refine (colloquyref13_Cmp.calls (rd l0 x4_1) (rd x3_1 (ji7)) t113 _ A10.out).mono ?_); rintro e w' ⟨rfl, ⟨nd, rfl⟩⟩; (try first | exact ⟨rfl, _, World.drewN_drewN _ _ _⟩ | exact ⟨rfl, _, Eq.trans (World.drewN_drewN _ _ _) (congrArg (World.drewN _) (Nat.add_assoc _ _ _))⟩)))
            repeat (go_quiet (first | (go_at_call 19; (with_reducible refine (colloquyref13_Cmp.calls (rd l0 x4_1) (rd x3_1 (ji7)) t113 _ A10.out).mono ?_); rintro e w' ⟨rfl, ⟨nd, rfl⟩⟩; (try first | exact ⟨rfl, _, World.drewN_drewN _ _ _⟩ | exact ⟨rfl, _, Eq.trans (World.drewN_drewN _ _ _) (congrArg (World.drewN _) (Nat.add_assoc _ _ _))⟩))); try go_wp2_with (first | (go_at_call 19; (with_reducible refine (colloquyref13_Cmp.calls (rd l0 x4_1) (rd x3_1 (ji7)) t113 _ A10.out).mono ?_); rintro e w' ⟨rfl, ⟨nd, rfl⟩⟩; (try first | exact ⟨rfl, _, World.drewN_drewN _ _ _⟩ | exact ⟨rfl, _, Eq.trans (World.drewN_drewN _ _ _) (congrArg (World.drewN _) (Nat.add_assoc _ _ _))⟩))))
            go_roundg k2
            case measure => have := HK1.out; have := HK2.out; omega
            case rel => exact ⟨(ji7), (by first | rfl | (simp; done) | (simp only [← hji7] <;> (first | rfl | simp)) | (simp [*]; done)), H', ⟨by have := HK1.out; have := HK2.out; omega⟩, ⟨by (with_reducible repeat (first | apply Kd.R_alloc | apply Kd.R_drewN | apply Kd.R_drew)); exact HO_3.out⟩, ⟨gw_ HB⟩⟩
           ·
            rw [if_neg c11] at H
            have c11b0 : decide (t113 < 0) = false := decide_eq_false c11
            clear c11
            by_cases c12 : 0 ≤ x5_2
            ·
             rw [if_pos c12] at H
             have c12b0 := eq_true c12
             have c12b1 : decide (0 ≤ x5_2) = true := decide_eq_true c12
             clear c12
             by_cases c13 : x5_2 ≤ (x3_1.length : Int)
             ·
              rw [if_pos c13] at H
              have c13b0 := eq_true c13
              have c13b1 : decide (x5_2 ≤ (x3_1.length : Int)) = true := decide_eq_true c13
              clear c13
              obtain ⟨y114, hy114⟩ : ∃ y_ : List Int, y_ = (x3_1.take (x5_2 : Int).toNat) := ⟨_, rfl⟩
              replace H : (if ([] : List Int).length + y114.length < 17592186044416 then ((some (([] : List Int) ++ y114 : List Int)).bind fun y118 => (if y118.length < 17592186044416 then ((some (y118 ++ [rd l0 x4_1] : List Int)).bind fun y122 => ((some (x3_1.drop (x5_2 : Int).toNat : List Int)).bind fun y125 => (if y122.length + y125.length < 17592186044416 then (colloquyref13_Sort.l0 k2 l0 (y122 ++ y125) (wrap64 (x4_1 + 1))) else (none)))) else (none))) else (none)) = some r := by first | (rw [hy114]; with_reducible exact H) | (have H2_ := (Option.bind_some _ _).symm.trans H; rw [hy114]; with_reducible exact H2_) | (have H2_ := (Option.bind_some _ _).symm.trans H; with_reducible exact H2_) | with_reducible exact H | (rw [hy114]; exact H) | exact H
              have Ny114 := Aside0.mk hy114
              clear hy114
              by_cases c14 : ([] : List Int).length + y114.length < 17592186044416
              ·
               rw [if_pos c14] at H
               have LMc14 := Aside0.mk c14
               clear c14
               obtain ⟨y118, hy118⟩ : ∃ y_ : List Int, y_ = (([] : List Int) ++ y114) := ⟨_, rfl⟩
               replace H : (if y118.length < 17592186044416 then ((some (y118 ++ [rd l0 x4_1] : List Int)).bind fun y122 => ((some (x3_1.drop (x5_2 : Int).toNat : List Int)).bind fun y125 => (if y122.length + y125.length < 17592186044416 then (colloquyref13_Sort.l0 k2 l0 (y122 ++ y125) (wrap64 (x4_1 + 1))) else (none)))) else (none)) = some r := by first | (rw [hy118]; with_reducible exact H) | (have H2_ := (Option.bind_some _ _).symm.trans H; rw [hy118]; with_reducible exact H2_) | (have H2_ := (Option.bind_some _ _).symm.trans H; with_reducible exact H2_) | with_reducible exact H | (rw [hy118]; exact H) | exact H
               have Ny118 := Aside0.mk hy118
               clear hy118
               by_cases c15 : y118.length < 17592186044416
               ·
                rw [if_pos c15] at H
                have LMc15 := Aside0.mk c15
                clear c15
                obtain ⟨y122, hy122⟩ : ∃ y_ : List Int, y_ = (y118 ++ [rd l0 x4_1]) := ⟨_, rfl⟩
                replace H : ((some (x3_1.drop (x5_2 : Int).toNat : List Int)).bind fun y125 => (if y122.length + y125.length < 17592186044416 then (colloquyref13_Sort.l0 k2 l0 (y122 ++ y125) (wrap64 (x4_1 + 1))) else (none))) = some r := by first | (rw [hy122]; with_reducible exact H) | (have H2_ := (Option.bind_some _ _).symm.trans H; rw [hy122]; with_reducible exact H2_) | (have H2_ := (Option.bind_some _ _).symm.trans H; with_reducible exact H2_) | with_reducible exact H | (rw [hy122]; exact H) | exact H
                have Ny122 := Aside0.mk hy122
                clear hy122
                have c16b0 := eq_true (of_decide_eq_true (by first | (with_reducible assumption) | assumption) : 0 ≤ x5_2)
                have c17b0 := eq_true (of_decide_eq_true (by first | (with_reducible assumption) | assumption) : x5_2 ≤ (x3_1.length : Int))
                obtain ⟨y125, hy125⟩ : ∃ y_ : List Int, y_ = (x3_1.drop (x5_2 : Int).toNat) := ⟨_, rfl⟩
                replace H : (if y122.length + y125.length < 17592186044416 then (colloquyref13_Sort.l0 k2 l0 (y122 ++ y125) (wrap64 (x4_1 + 1))) else (none)) = some r := by first | (rw [hy125]; with_reducible exact H) | (have H2_ := (Option.bind_some _ _).symm.trans H; rw [hy125]; with_reducible exact H2_) | (have H2_ := (Option.bind_some _ _).symm.trans H; with_reducible exact H2_) | with_reducible exact H | (rw [hy125]; exact H) | exact H
                have Ny125 := Aside0.mk hy125
                clear hy125
                by_cases c18 : y122.length + y125.length < 17592186044416
                ·
                 rw [if_pos c18] at H
                 have LMc18 := Aside0.mk c18
                 clear c18
                 obtain ⟨y129, hy129⟩ : ∃ y_ : List Int, y_ = (y122 ++ y125) := ⟨_, rfl⟩
                 replace H : (colloquyref13_Sort.l0 k2 l0 y129 (wrap64 (x4_1 + 1))) = some r := by first | (rw [hy129]; with_reducible exact H) | (have H2_ := (Option.bind_some _ _).symm.trans H; rw [hy129]; with_reducible exact H2_) | (have H2_ := (Option.bind_some _ _).symm.trans H; with_reducible exact H2_) | with_reducible exact H | (rw [hy129]; exact H) | exact H
                 have Ny129 := Aside0.mk hy129
                 clear hy129
                 have H' := Aside0.mk H
                 clear H
                 have p111 : 0 ≤ (x4_1 : Int) := of_decide_eq_true (by first | (with_reducible assumption) | assumption)
                 have q111 : x4_1 < (l0.length : Int) := of_decide_eq_true (by first | (with_reducible assumption) | assumption)
                 obtain ⟨ad111, e111, hx111_0⟩ := Kd.at_int HR0.out x4_1 p111 q111
                 cases e111
                 replace hx111_0 := (HB.out.cell (World.block_lt_of_cell? w _ hx111_0)).trans hx111_0
                 replace p111 := eq_true p111
                 replace q111 := eq_true q111
                 have p112 : 0 ≤ ((ji7) : Int) := of_decide_eq_true (by first | (with_reducible assumption) | assumption)
                 have q112 : (ji7) < (x3_1.length : Int) := of_decide_eq_true (by first | (with_reducible assumption) | assumption)
                 obtain ⟨ad112, e112, hx112_0⟩ := Kd.at_int (Kd.R_reads' HO_3.out).2.2 (ji7) p112 q112
                 cases e112
                 replace p112 := eq_true p112
                 replace q112 := eq_true q112
                 go_wp2_with (first | (go_at_call 19; (with_reducible refine (colloquyref13_Cmp.calls (rd l0 x4_1) (rd x3_1 (ji7)) t113 _ A10.out).mono ?_); rintro e w' ⟨rfl, ⟨nd, rfl⟩⟩; (try first | exact ⟨rfl, _, World.drewN_drewN _ _ _⟩ | exact ⟨rfl, _, Eq.trans (World.drewN_drewN _ _ _) (congrArg (World.drewN _) (Nat.add_assoc _ _ _))⟩); have q19 : (x5_2 : Int) ≤ ((x3_1.length : Int) : Int) := of_decide_eq_true (by first | (with_reducible assumption) | assumption); obtain ⟨i019, hi019, _, hsz19, _⟩ := info_parts info22; have hroom19 : x3_1.length ≤ co3 := (Kd.R_reads' HO_3.out).2.1; have hC19 : Kd.C (Kd.int .u64) _ (some ad112) x3_1.length x3_1 := (Kd.R_reads' HO_3.out).2.2; have hcut19 := cut_to (P := Try.prog) 23 22 .i64 Try.underlying23 hi019 (some ad112) x3_1.length co3 x5_2 (of_decide_eq_true (by first | (with_reducible assumption) | assumption)) q19 hroom19; have hr19 := Kd.C_take (m := (x5_2 : Int).toNat) hC19 (by omega); have hy19 : y114.length = (x5_2 : Int).toNat := (by rw [Ny114.out, List.length_take]; omega); rw [← Ny114.out] at hr19; rw [← hy19] at hcut19; have HR117 := Aside0.mk hr19; have HC117 := Aside0.mk (show y114.length ≤ co3 from by omega); clear hr19 hC19 hroom19 hi019 hsz19; have KY19 := Aside0.mk hy19; clear hy19; have KL19 := Aside0.mk (show (x5_2 : Int).toNat ≤ x3_1.length from by omega); replace q19 := eq_true q19) | ((with_reducible refine gate_builtin (b := .append) (xs := #[.const (.slice none 0 0), .tmp 34]) rfl ?_); at_builtin; refine Kd.R_append_rows (Kd.int .u64) (w0 := w) w.heap.size rfl (.const (.slice none 0 0)) (.tmp 34) 23 22 (.int .u64 0) 8 rfl Try.underlying23 info22 rfl (by decide) (by omega) (.slice none 0 0) ([] : List Int) y114 _ _ _ (fun k_ => some k_ ≠ (.slice (some ad112) x3_1.length co3 : Value).ownBlock) (fun _ => False) rfl rfl ?aO ?aR (fun _ _ h => h) (fun _ h => h.elim) ?aF ?aB ?aS ?aL ?_; (case aR => repeat (first | exact (by repeat (first | (with_reducible exact HR117.out) | (with_reducible refine Kd.C_alloc ?_ _) | (with_reducible refine Kd.C_drewN ?_ _) | (with_reducible refine Kd.C_drew ?_) | exact HR117.out)) | (with_reducible refine Kd.C_alloc ?_ _) | (with_reducible refine Kd.C_drewN ?_ _) | (with_reducible refine Kd.C_drew ?_))); (case aB => exact (gw_ HB)); (case aF => exact (fun k_ hk => Kd.fresh' (Kd.R_lt (Kd.rk HO_3)) k_ hk)); (case aO => exact ((Kd.R_nil _ _ _ _ (fun k_ => some k_ ≠ (.slice (some ad112) x3_1.length co3 : Value).ownBlock)))); (case aS => exact (below_size (gw_ HB))); (case aL => have := LMc14.out; omega); intro v119 w20 ho hb hg hat; rw [← Ny118.out] at ho; have n0_ := Aside0.mk (Kd.R_after (Kd.R_apart_nil (Kd.rk HO_3)) hg hat); have n1_ := Aside0.mk (hb); have n2_ := Aside0.mk ((show Kd.C (Kd.int .u64) w20 (some ad112) y114.length y114 from by rw [Ny114.out]; exact Kd.C_take (m := (x5_2 : Int).toNat) ((Kd.R_reads' (Kd.R_after (Kd.R_apart_nil (Kd.rk HO_3)) hg hat)).2.2) KL19.out)); have n3_ := Aside0.mk (ho); clear HO_3; clear HB; clear HR117; have HO_3 := n0_; have HB := n1_; have HR117 := n2_; have HO120 := n3_; clear n0_ n1_ n2_ n3_; clear ho hb hg hat; have p121 : 0 ≤ (x4_1 : Int) := of_decide_eq_true (by first | (with_reducible assumption) | assumption); have q121 : x4_1 < (l0.length : Int) := of_decide_eq_true (by first | (with_reducible assumption) | assumption); obtain ⟨ad121, e121, hx121_0⟩ := Kd.at_int HR0.out x4_1 p121 q121; obtain rfl : ad111 = ad121 := (by injection e121); replace hx121_0 := (HB.out.cell (World.block_lt_of_cell? w _ hx121_0)).trans hx121_0; replace p121 := eq_true p121; replace q121 := eq_true q121) | ((with_reducible refine gate_builtin (b := .append) (xs := #[.tmp 36, .tmp 41]) rfl ?_); at_builtin; refine Kd.R_append (Kd.int .u64) (w0 := w) w.heap.size rfl (.tmp 36) (.tmp 41) 23 22 (.int .u64 0) 8 rfl Try.underlying23 info22 rfl (by decide) (by omega) v119 y118 (rd l0 x4_1) [.int .u64 (rd l0 x4_1)] (fun k_ => some k_ ≠ (.slice (some ad112) x3_1.length co3 : Value).ownBlock) (fun _ => False) rfl rfl ?aP (fun _ hk => hk.elim) ?aF ?aO ?aB ?aS ?aL ?_; (case aP => exact rfl); (case aB => exact (gw_ HB)); (case aF => exact (fun k_ hk => Kd.fresh' (Kd.R_lt (Kd.rk HO_3)) k_ hk)); (case aO => exact (Kd.rk HO120)); (case aS => exact (below_size (gw_ HB))); (case aL => have := LMc15.out; omega); intro v123 w21 ho hb hg hat; rw [← Ny122.out] at ho; have n0_ := Aside0.mk (Kd.R_after (ok := (fun _ => True)) (Kd.rk HO_3) hg hat); have n1_ := Aside0.mk (hb); have n2_ := Aside0.mk ((show Kd.C (Kd.int .u64) w21 (some ad112) y114.length y114 from by rw [Ny114.out]; exact Kd.C_take (m := (x5_2 : Int).toNat) ((Kd.R_reads' (Kd.R_after (ok := (fun _ => True)) (Kd.rk HO_3) hg hat)).2.2) KL19.out)); have n3_ := Aside0.mk (ho); clear HO_3; clear HB; clear HR117; clear HO120; have HO_3 := n0_; have HB := n1_; have HR117 := n2_; have HO124 := n3_; clear n0_ n1_ n2_ n3_; clear ho hb hg hat; have q22 : (x5_2 : Int) ≤ ((x3_1.length : Int) : Int) := of_decide_eq_true (by first | (with_reducible assumption) | assumption); obtain ⟨i022, hi022, _, hsz22, _⟩ := info_parts info22; have hroom22 : x3_1.length ≤ co3 := (Kd.R_reads' HO_3.out).2.1; have hC22 : Kd.C (Kd.int .u64) _ (some ad112) x3_1.length x3_1 := (Kd.R_reads' HO_3.out).2.2; have q022 : (0 : Int) ≤ (x5_2 : Int) := of_decide_eq_true (by first | (with_reducible assumption) | assumption); have hcut22 := cut_from (P := Try.prog) 23 22 .i64 Try.underlying23 hi022 1 hsz22 (some ad112) x3_1.length co3 x5_2 q022 q22; have hr22 := Kd.C_drop (m := (x5_2 : Int).toNat) (c := co3) hC22 (by omega) hroom22; obtain ⟨A22, hA22⟩ : ∃ A1, A1 = (if co3 = (x5_2 : Int).toNat then (some ad112) else ((some ad112) : Option Addr).map (·.add ((x5_2 : Int).toNat * 1))) := ⟨_, rfl⟩; obtain ⟨c22, hc22⟩ : ∃ c1, c1 = co3 - (x5_2 : Int).toNat := ⟨_, rfl⟩; have hy22 : y125.length = x3_1.length - (x5_2 : Int).toNat := (by rw [Ny125.out, List.length_drop] <;> omega); rw [show (x3_1).drop (x5_2 : Int).toNat = y125 from Ny125.out.symm] at hr22; replace hr22 : Kd.C (Kd.int .u64) _ A22 y125.length y125 := (by rw [hA22]; exact hr22); rw [← hy22, ← hA22, ← hc22] at hcut22; have HR128 := Aside0.mk hr22; have HC128 := Aside0.mk (show y125.length ≤ c22 from by rw [hy22, hc22]; exact Nat.sub_le_sub_right hroom22 _); clear hr22 hC22 hroom22 hi022 hsz22 hc22; have KY22 := Aside0.mk hy22; have KA22 := Aside0.mk hA22; clear hy22 hA22; have KL22 := Aside0.mk (show (x5_2 : Int).toNat ≤ x3_1.length from by omega); replace q22 := eq_true q22) | ((with_reducible refine gate_builtin (b := .append) (xs := #[.tmp 43, .tmp 46]) rfl ?_); at_builtin; refine Kd.R_append_rows (Kd.int .u64) (w0 := w) w.heap.size rfl (.tmp 43) (.tmp 46) 23 22 (.int .u64 0) 8 rfl Try.underlying23 info22 rfl (by decide) (by omega) v123 y122 y125 _ _ _ (fun k_ => some k_ ≠ (.slice (some ad112) x3_1.length co3 : Value).ownBlock) (fun _ => False) rfl rfl ?aO ?aR (fun _ _ h => h) (fun _ h => h.elim) ?aF ?aB ?aS ?aL ?_; (case aR => repeat (first | exact (by repeat (first | (with_reducible exact HR128.out) | (with_reducible refine Kd.C_alloc ?_ _) | (with_reducible refine Kd.C_drewN ?_ _) | (with_reducible refine Kd.C_drew ?_) | exact HR128.out)) | (with_reducible refine Kd.C_alloc ?_ _) | (with_reducible refine Kd.C_drewN ?_ _) | (with_reducible refine Kd.C_drew ?_))); (case aB => exact (gw_ HB)); (case aF => exact (fun k_ hk => Kd.fresh' (Kd.R_lt (Kd.rk HO_3)) k_ hk)); (case aO => exact (Kd.rk HO124)); (case aS => exact (below_size (gw_ HB))); (case aL => have := LMc18.out; omega); intro v130 w23 ho hb hg hat; rw [← Ny129.out] at ho; have n0_ := Aside0.mk (Kd.R_after (ok := (fun _ => True)) (Kd.rk HO_3) hg hat); have n1_ := Aside0.mk (hb); have n2_ := Aside0.mk ((show Kd.C (Kd.int .u64) w23 (some ad112) y114.length y114 from by rw [Ny114.out]; exact Kd.C_take (m := (x5_2 : Int).toNat) ((Kd.R_reads' (Kd.R_after (ok := (fun _ => True)) (Kd.rk HO_3) hg hat)).2.2) KL19.out)); have n3_ := Aside0.mk ((show Kd.C (Kd.int .u64) w23 A22 y125.length y125 from by rw [Ny125.out, KA22.out]; exact Kd.C_drop (m := (x5_2 : Int).toNat) (c := co3) ((Kd.R_reads' (Kd.R_after (ok := (fun _ => True)) (Kd.rk HO_3) hg hat)).2.2) KL22.out ((Kd.R_reads' (Kd.R_after (ok := (fun _ => True)) (Kd.rk HO_3) hg hat)).2.1))); have n4_ := Aside0.mk (ho); clear HO_3; clear HB; clear HR117; clear HR128; clear HO124; have HO_3 := n0_; have HB := n1_; have HR117 := n2_; have HR128 := n3_; have HO131 := n4_; clear n0_ n1_ n2_ n3_ n4_; clear ho hb hg hat))
                 repeat (go_quiet (first | (go_at_call 19; (with_reducible refine (colloquyref13_Cmp.calls (rd l0 x4_1) (rd x3_1 (ji7)) t113 _ A10.out).mono ?_); rintro e w' ⟨rfl, ⟨nd, rfl⟩⟩; (try first | exact ⟨rfl, _, World.drewN_drewN _ _ _⟩ | exact ⟨rfl, _, Eq.trans (World.drewN_drewN _ _ _) (congrArg (World.drewN _) (Nat.add_assoc _ _ _))⟩); have q19 : (x5_2 : Int) ≤ ((x3_1.length : Int) : Int) := of_decide_eq_true (by first | (with_reducible assumption) | assumption); obtain ⟨i019, hi019, _, hsz19, _⟩ := info_parts info22; have hroom19 : x3_1.length ≤ co3 := (Kd.R_reads' HO_3.out).2.1; have hC19 : Kd.C (Kd.int .u64) _ (some ad112) x3_1.length x3_1 := (Kd.R_reads' HO_3.out).2.2; have hcut19 := cut_to (P := Try.prog) 23 22 .i64 Try.underlying23 hi019 (some ad112) x3_1.length co3 x5_2 (of_decide_eq_true (by first | (with_reducible assumption) | assumption)) q19 hroom19; have hr19 := Kd.C_take (m := (x5_2 : Int).toNat) hC19 (by omega); have hy19 : y114.length = (x5_2 : Int).toNat := (by rw [Ny114.out, List.length_take]; omega); rw [← Ny114.out] at hr19; rw [← hy19] at hcut19; have HR117 := Aside0.mk hr19; have HC117 := Aside0.mk (show y114.length ≤ co3 from by omega); clear hr19 hC19 hroom19 hi019 hsz19; have KY19 := Aside0.mk hy19; clear hy19; have KL19 := Aside0.mk (show (x5_2 : Int).toNat ≤ x3_1.length from by omega); replace q19 := eq_true q19) | ((with_reducible refine gate_builtin (b := .append) (xs := #[.const (.slice none 0 0), .tmp 34]) rfl ?_); at_builtin; refine Kd.R_append_rows (Kd.int .u64) (w0 := w) w.heap.size rfl (.const (.slice none 0 0)) (.tmp 34) 23 22 (.int .u64 0) 8 rfl Try.underlying23 info22 rfl (by decide) (by omega) (.slice none 0 0) ([] : List Int) y114 _ _ _ (fun k_ => some k_ ≠ (.slice (some ad112) x3_1.length co3 : Value).ownBlock) (fun _ => False) rfl rfl ?aO ?aR (fun _ _ h => h) (fun _ h => h.elim) ?aF ?aB ?aS ?aL ?_; (case aR => repeat (first | exact (by repeat (first | (with_reducible exact HR117.out) | (with_reducible refine Kd.C_alloc ?_ _) | (with_reducible refine Kd.C_drewN ?_ _) | (with_reducible refine Kd.C_drew ?_) | exact HR117.out)) | (with_reducible refine Kd.C_alloc ?_ _) | (with_reducible refine Kd.C_drewN ?_ _) | (with_reducible refine Kd.C_drew ?_))); (case aB => exact (gw_ HB)); (case aF => exact (fun k_ hk => Kd.fresh' (Kd.R_lt (Kd.rk HO_3)) k_ hk)); (case aO => exact ((Kd.R_nil _ _ _ _ (fun k_ => some k_ ≠ (.slice (some ad112) x3_1.length co3 : Value).ownBlock)))); (case aS => exact (below_size (gw_ HB))); (case aL => have := LMc14.out; omega); intro v119 w20 ho hb hg hat; rw [← Ny118.out] at ho; have n0_ := Aside0.mk (Kd.R_after (Kd.R_apart_nil (Kd.rk HO_3)) hg hat); have n1_ := Aside0.mk (hb); have n2_ := Aside0.mk ((show Kd.C (Kd.int .u64) w20 (some ad112) y114.length y114 from by rw [Ny114.out]; exact Kd.C_take (m := (x5_2 : Int).toNat) ((Kd.R_reads' (Kd.R_after (Kd.R_apart_nil (Kd.rk HO_3)) hg hat)).2.2) KL19.out)); have n3_ := Aside0.mk (ho); clear HO_3; clear HB; clear HR117; have HO_3 := n0_; have HB := n1_; have HR117 := n2_; have HO120 := n3_; clear n0_ n1_ n2_ n3_; clear ho hb hg hat; have p121 : 0 ≤ (x4_1 : Int) := of_decide_eq_true (by first | (with_reducible assumption) | assumption); have q121 : x4_1 < (l0.length : Int) := of_decide_eq_true (by first | (with_reducible assumption) | assumption); obtain ⟨ad121, e121, hx121_0⟩ := Kd.at_int HR0.out x4_1 p121 q121; obtain rfl : ad111 = ad121 := (by injection e121); replace hx121_0 := (HB.out.cell (World.block_lt_of_cell? w _ hx121_0)).trans hx121_0; replace p121 := eq_true p121; replace q121 := eq_true q121) | ((with_reducible refine gate_builtin (b := .append) (xs := #[.tmp 36, .tmp 41]) rfl ?_); at_builtin; refine Kd.R_append (Kd.int .u64) (w0 := w) w.heap.size rfl (.tmp 36) (.tmp 41) 23 22 (.int .u64 0) 8 rfl Try.underlying23 info22 rfl (by decide) (by omega) v119 y118 (rd l0 x4_1) [.int .u64 (rd l0 x4_1)] (fun k_ => some k_ ≠ (.slice (some ad112) x3_1.length co3 : Value).ownBlock) (fun _ => False) rfl rfl ?aP (fun _ hk => hk.elim) ?aF ?aO ?aB ?aS ?aL ?_; (case aP => exact rfl); (case aB => exact (gw_ HB)); (case aF => exact (fun k_ hk => Kd.fresh' (Kd.R_lt (Kd.rk HO_3)) k_ hk)); (case aO => exact (Kd.rk HO120)); (case aS => exact (below_size (gw_ HB))); (case aL => have := LMc15.out; omega); intro v123 w21 ho hb hg hat; rw [← Ny122.out] at ho; have n0_ := Aside0.mk (Kd.R_after (ok := (fun _ => True)) (Kd.rk HO_3) hg hat); have n1_ := Aside0.mk (hb); have n2_ := Aside0.mk ((show Kd.C (Kd.int .u64) w21 (some ad112) y114.length y114 from by rw [Ny114.out]; exact Kd.C_take (m := (x5_2 : Int).toNat) ((Kd.R_reads' (Kd.R_after (ok := (fun _ => True)) (Kd.rk HO_3) hg hat)).2.2) KL19.out)); have n3_ := Aside0.mk (ho); clear HO_3; clear HB; clear HR117; clear HO120; have HO_3 := n0_; have HB := n1_; have HR117 := n2_; have HO124 := n3_; clear n0_ n1_ n2_ n3_; clear ho hb hg hat; have q22 : (x5_2 : Int) ≤ ((x3_1.length : Int) : Int) := of_decide_eq_true (by first | (with_reducible assumption) | assumption); obtain ⟨i022, hi022, _, hsz22, _⟩ := info_parts info22; have hroom22 : x3_1.length ≤ co3 := (Kd.R_reads' HO_3.out).2.1; have hC22 : Kd.C (Kd.int .u64) _ (some ad112) x3_1.length x3_1 := (Kd.R_reads' HO_3.out).2.2; have q022 : (0 : Int) ≤ (x5_2 : Int) := of_decide_eq_true (by first | (with_reducible assumption) | assumption); have hcut22 := cut_from (P := Try.prog) 23 22 .i64 Try.underlying23 hi022 1 hsz22 (some ad112) x3_1.length co3 x5_2 q022 q22; have hr22 := Kd.C_drop (m := (x5_2 : Int).toNat) (c := co3) hC22 (by omega) hroom22; obtain ⟨A22, hA22⟩ : ∃ A1, A1 = (if co3 = (x5_2 : Int).toNat then (some ad112) else ((some ad112) : Option Addr).map (·.add ((x5_2 : Int).toNat * 1))) := ⟨_, rfl⟩; obtain ⟨c22, hc22⟩ : ∃ c1, c1 = co3 - (x5_2 : Int).toNat := ⟨_, rfl⟩; have hy22 : y125.length = x3_1.length - (x5_2 : Int).toNat := (by rw [Ny125.out, List.length_drop] <;> omega); rw [show (x3_1).drop (x5_2 : Int).toNat = y125 from Ny125.out.symm] at hr22; replace hr22 : Kd.C (Kd.int .u64) _ A22 y125.length y125 := (by rw [hA22]; exact hr22); rw [← hy22, ← hA22, ← hc22] at hcut22; have HR128 := Aside0.mk hr22; have HC128 := Aside0.mk (show y125.length ≤ c22 from by rw [hy22, hc22]; exact Nat.sub_le_sub_right hroom22 _); clear hr22 hC22 hroom22 hi022 hsz22 hc22; have KY22 := Aside0.mk hy22; have KA22 := Aside0.mk hA22; clear hy22 hA22; have KL22 := Aside0.mk (show (x5_2 : Int).toNat ≤ x3_1.length from by omega); replace q22 := eq_true q22) | ((with_reducible refine gate_builtin (b := .append) (xs := #[.tmp 43, .tmp 46]) rfl ?_); at_builtin; refine Kd.R_append_rows (Kd.int .u64) (w0 := w) w.heap.size rfl (.tmp 43) (.tmp 46) 23 22 (.int .u64 0) 8 rfl Try.underlying23 info22 rfl (by decide) (by omega) v123 y122 y125 _ _ _ (fun k_ => some k_ ≠ (.slice (some ad112) x3_1.length co3 : Value).ownBlock) (fun _ => False) rfl rfl ?aO ?aR (fun _ _ h => h) (fun _ h => h.elim) ?aF ?aB ?aS ?aL ?_; (case aR => repeat (first | exact (by repeat (first | (with_reducible exact HR128.out) | (with_reducible refine Kd.C_alloc ?_ _) | (with_reducible refine Kd.C_drewN ?_ _) | (with_reducible refine Kd.C_drew ?_) | exact HR128.out)) | (with_reducible refine Kd.C_alloc ?_ _) | (with_reducible refine Kd.C_drewN ?_ _) | (with_reducible refine Kd.C_drew ?_))); (case aB => exact (gw_ HB)); (case aF => exact (fun k_ hk => Kd.fresh' (Kd.R_lt (Kd.rk HO_3)) k_ hk)); (case aO => exact (Kd.rk HO124)); (case aS => exact (below_size (gw_ HB))); (case aL => have := LMc18.out; omega); intro v130 w23 ho hb hg hat; rw [← Ny129.out] at ho; have n0_ := Aside0.mk (Kd.R_after (ok := (fun _ => True)) (Kd.rk HO_3) hg hat); have n1_ := Aside0.mk (hb); have n2_ := Aside0.mk ((show Kd.C (Kd.int .u64) w23 (some ad112) y114.length y114 from by rw [Ny114.out]; exact Kd.C_take (m := (x5_2 : Int).toNat) ((Kd.R_reads' (Kd.R_after (ok := (fun _ => True)) (Kd.rk HO_3) hg hat)).2.2) KL19.out)); have n3_ := Aside0.mk ((show Kd.C (Kd.int .u64) w23 A22 y125.length y125 from by rw [Ny125.out, KA22.out]; exact Kd.C_drop (m := (x5_2 : Int).toNat) (c := co3) ((Kd.R_reads' (Kd.R_after (ok := (fun _ => True)) (Kd.rk HO_3) hg hat)).2.2) KL22.out ((Kd.R_reads' (Kd.R_after (ok := (fun _ => True)) (Kd.rk HO_3) hg hat)).2.1))); have n4_ := Aside0.mk (ho); clear HO_3; clear HB; clear HR117; clear HR128; clear HO124; have HO_3 := n0_; have HB := n1_; have HR117 := n2_; have HR128 := n3_; have HO131 := n4_; clear n0_ n1_ n2_ n3_ n4_; clear ho hb hg hat)); try go_wp2_with (first | (go_at_call 19; (with_reducible refine (colloquyref13_Cmp.calls (rd l0 x4_1) (rd x3_1 (ji7)) t113 _ A10.out).mono ?_); rintro e w' ⟨rfl, ⟨nd, rfl⟩⟩; (try first | exact ⟨rfl, _, World.drewN_drewN _ _ _⟩ | exact ⟨rfl, _, Eq.trans (World.drewN_drewN _ _ _) (congrArg (World.drewN _) (Nat.add_assoc _ _ _))⟩); have q19 : (x5_2 : Int) ≤ ((x3_1.length : Int) : Int) := of_decide_eq_true (by first | (with_reducible assumption) | assumption); obtain ⟨i019, hi019, _, hsz19, _⟩ := info_parts info22; have hroom19 : x3_1.length ≤ co3 := (Kd.R_reads' HO_3.out).2.1; have hC19 : Kd.C (Kd.int .u64) _ (some ad112) x3_1.length x3_1 := (Kd.R_reads' HO_3.out).2.2; have hcut19 := cut_to (P := Try.prog) 23 22 .i64 Try.underlying23 hi019 (some ad112) x3_1.length co3 x5_2 (of_decide_eq_true (by first | (with_reducible assumption) | assumption)) q19 hroom19; have hr19 := Kd.C_take (m := (x5_2 : Int).toNat) hC19 (by omega); have hy19 : y114.length = (x5_2 : Int).toNat := (by rw [Ny114.out, List.length_take]; omega); rw [← Ny114.out] at hr19; rw [← hy19] at hcut19; have HR117 := Aside0.mk hr19; have HC117 := Aside0.mk (show y114.length ≤ co3 from by omega); clear hr19 hC19 hroom19 hi019 hsz19; have KY19 := Aside0.mk hy19; clear hy19; have KL19 := Aside0.mk (show (x5_2 : Int).toNat ≤ x3_1.length from by omega); replace q19 := eq_true q19) | ((with_reducible refine gate_builtin (b := .append) (xs := #[.const (.slice none 0 0), .tmp 34]) rfl ?_); at_builtin; refine Kd.R_append_rows (Kd.int .u64) (w0 := w) w.heap.size rfl (.const (.slice none 0 0)) (.tmp 34) 23 22 (.int .u64 0) 8 rfl Try.underlying23 info22 rfl (by decide) (by omega) (.slice none 0 0) ([] : List Int) y114 _ _ _ (fun k_ => some k_ ≠ (.slice (some ad112) x3_1.length co3 : Value).ownBlock) (fun _ => False) rfl rfl ?aO ?aR (fun _ _ h => h) (fun _ h => h.elim) ?aF ?aB ?aS ?aL ?_; (case aR => repeat (first | exact (by repeat (first | (with_reducible exact HR117.out) | (with_reducible refine Kd.C_alloc ?_ _) | (with_reducible refine Kd.C_drewN ?_ _) | (with_reducible refine Kd.C_drew ?_) | exact HR117.out)) | (with_reducible refine Kd.C_alloc ?_ _) | (with_reducible refine Kd.C_drewN ?_ _) | (with_reducible refine Kd.C_drew ?_))); (case aB => exact (gw_ HB)); (case aF => exact (fun k_ hk => Kd.fresh' (Kd.R_lt (Kd.rk HO_3)) k_ hk)); (case aO => exact ((Kd.R_nil _ _ _ _ (fun k_ => some k_ ≠ (.slice (some ad112) x3_1.length co3 : Value).ownBlock)))); (case aS => exact (below_size (gw_ HB))); (case aL => have := LMc14.out; omega); intro v119 w20 ho hb hg hat; rw [← Ny118.out] at ho; have n0_ := Aside0.mk (Kd.R_after (Kd.R_apart_nil (Kd.rk HO_3)) hg hat); have n1_ := Aside0.mk (hb); have n2_ := Aside0.mk ((show Kd.C (Kd.int .u64) w20 (some ad112) y114.length y114 from by rw [Ny114.out]; exact Kd.C_take (m := (x5_2 : Int).toNat) ((Kd.R_reads' (Kd.R_after (Kd.R_apart_nil (Kd.rk HO_3)) hg hat)).2.2) KL19.out)); have n3_ := Aside0.mk (ho); clear HO_3; clear HB; clear HR117; have HO_3 := n0_; have HB := n1_; have HR117 := n2_; have HO120 := n3_; clear n0_ n1_ n2_ n3_; clear ho hb hg hat; have p121 : 0 ≤ (x4_1 : Int) := of_decide_eq_true (by first | (with_reducible assumption) | assumption); have q121 : x4_1 < (l0.length : Int) := of_decide_eq_true (by first | (with_reducible assumption) | assumption); obtain ⟨ad121, e121, hx121_0⟩ := Kd.at_int HR0.out x4_1 p121 q121; obtain rfl : ad111 = ad121 := (by injection e121); replace hx121_0 := (HB.out.cell (World.block_lt_of_cell? w _ hx121_0)).trans hx121_0; replace p121 := eq_true p121; replace q121 := eq_true q121) | ((with_reducible refine gate_builtin (b := .append) (xs := #[.tmp 36, .tmp 41]) rfl ?_); at_builtin; refine Kd.R_append (Kd.int .u64) (w0 := w) w.heap.size rfl (.tmp 36) (.tmp 41) 23 22 (.int .u64 0) 8 rfl Try.underlying23 info22 rfl (by decide) (by omega) v119 y118 (rd l0 x4_1) [.int .u64 (rd l0 x4_1)] (fun k_ => some k_ ≠ (.slice (some ad112) x3_1.length co3 : Value).ownBlock) (fun _ => False) rfl rfl ?aP (fun _ hk => hk.elim) ?aF ?aO ?aB ?aS ?aL ?_; (case aP => exact rfl); (case aB => exact (gw_ HB)); (case aF => exact (fun k_ hk => Kd.fresh' (Kd.R_lt (Kd.rk HO_3)) k_ hk)); (case aO => exact (Kd.rk HO120)); (case aS => exact (below_size (gw_ HB))); (case aL => have := LMc15.out; omega); intro v123 w21 ho hb hg hat; rw [← Ny122.out] at ho; have n0_ := Aside0.mk (Kd.R_after (ok := (fun _ => True)) (Kd.rk HO_3) hg hat); have n1_ := Aside0.mk (hb); have n2_ := Aside0.mk ((show Kd.C (Kd.int .u64) w21 (some ad112) y114.length y114 from by rw [Ny114.out]; exact Kd.C_take (m := (x5_2 : Int).toNat) ((Kd.R_reads' (Kd.R_after (ok := (fun _ => True)) (Kd.rk HO_3) hg hat)).2.2) KL19.out)); have n3_ := Aside0.mk (ho); clear HO_3; clear HB; clear HR117; clear HO120; have HO_3 := n0_; have HB := n1_; have HR117 := n2_; have HO124 := n3_; clear n0_ n1_ n2_ n3_; clear ho hb hg hat; have q22 : (x5_2 : Int) ≤ ((x3_1.length : Int) : Int) := of_decide_eq_true (by first | (with_reducible assumption) | assumption); obtain ⟨i022, hi022, _, hsz22, _⟩ := info_parts info22; have hroom22 : x3_1.length ≤ co3 := (Kd.R_reads' HO_3.out).2.1; have hC22 : Kd.C (Kd.int .u64) _ (some ad112) x3_1.length x3_1 := (Kd.R_reads' HO_3.out).2.2; have q022 : (0 : Int) ≤ (x5_2 : Int) := of_decide_eq_true (by first | (with_reducible assumption) | assumption); have hcut22 := cut_from (P := Try.prog) 23 22 .i64 Try.underlying23 hi022 1 hsz22 (some ad112) x3_1.length co3 x5_2 q022 q22; have hr22 := Kd.C_drop (m := (x5_2 : Int).toNat) (c := co3) hC22 (by omega) hroom22; obtain ⟨A22, hA22⟩ : ∃ A1, A1 = (if co3 = (x5_2 : Int).toNat then (some ad112) else ((some ad112) : Option Addr).map (·.add ((x5_2 : Int).toNat * 1))) := ⟨_, rfl⟩; obtain ⟨c22, hc22⟩ : ∃ c1, c1 = co3 - (x5_2 : Int).toNat := ⟨_, rfl⟩; have hy22 : y125.length = x3_1.length - (x5_2 : Int).toNat := (by rw [Ny125.out, List.length_drop] <;> omega); rw [show (x3_1).drop (x5_2 : Int).toNat = y125 from Ny125.out.symm] at hr22; replace hr22 : Kd.C (Kd.int .u64) _ A22 y125.length y125 := (by rw [hA22]; exact hr22); rw [← hy22, ← hA22, ← hc22] at hcut22; have HR128 := Aside0.mk hr22; have HC128 := Aside0.mk (show y125.length ≤ c22 from by rw [hy22, hc22]; exact Nat.sub_le_sub_right hroom22 _); clear hr22 hC22 hroom22 hi022 hsz22 hc22; have KY22 := Aside0.mk hy22; have KA22 := Aside0.mk hA22; clear hy22 hA22; have KL22 := Aside0.mk (show (x5_2 : Int).toNat ≤ x3_1.length from by omega); replace q22 := eq_true q22) | ((with_reducible refine gate_builtin (b := .append) (xs := #[.tmp 43, .tmp 46]) rfl ?_); at_builtin; refine Kd.R_append_rows (Kd.int .u64) (w0 := w) w.heap.size rfl (.tmp 43) (.tmp 46) 23 22 (.int .u64 0) 8 rfl Try.underlying23 info22 rfl (by decide) (by omega) v123 y122 y125 _ _ _ (fun k_ => some k_ ≠ (.slice (some ad112) x3_1.length co3 : Value).ownBlock) (fun _ => False) rfl rfl ?aO ?aR (fun _ _ h => h) (fun _ h => h.elim) ?aF ?aB ?aS ?aL ?_; (case aR => repeat (first | exact (by repeat (first | (with_reducible exact HR128.out) | (with_reducible refine Kd.C_alloc ?_ _) | (with_reducible refine Kd.C_drewN ?_ _) | (with_reducible refine Kd.C_drew ?_) | exact HR128.out)) | (with_reducible refine Kd.C_alloc ?_ _) | (with_reducible refine Kd.C_drewN ?_ _) | (with_reducible refine Kd.C_drew ?_))); (case aB => exact (gw_ HB)); (case aF => exact (fun k_ hk => Kd.fresh' (Kd.R_lt (Kd.rk HO_3)) k_ hk)); (case aO => exact (Kd.rk HO124)); (case aS => exact (below_size (gw_ HB))); (case aL => have := LMc18.out; omega); intro v130 w23 ho hb hg hat; rw [← Ny129.out] at ho; have n0_ := Aside0.mk (Kd.R_after (ok := (fun _ => True)) (Kd.rk HO_3) hg hat); have n1_ := Aside0.mk (hb); have n2_ := Aside0.mk ((show Kd.C (Kd.int .u64) w23 (some ad112) y114.length y114 from by rw [Ny114.out]; exact Kd.C_take (m := (x5_2 : Int).toNat) ((Kd.R_reads' (Kd.R_after (ok := (fun _ => True)) (Kd.rk HO_3) hg hat)).2.2) KL19.out)); have n3_ := Aside0.mk ((show Kd.C (Kd.int .u64) w23 A22 y125.length y125 from by rw [Ny125.out, KA22.out]; exact Kd.C_drop (m := (x5_2 : Int).toNat) (c := co3) ((Kd.R_reads' (Kd.R_after (ok := (fun _ => True)) (Kd.rk HO_3) hg hat)).2.2) KL22.out ((Kd.R_reads' (Kd.R_after (ok := (fun _ => True)) (Kd.rk HO_3) hg hat)).2.1))); have n4_ := Aside0.mk (ho); clear HO_3; clear HB; clear HR117; clear HR128; clear HO124; have HO_3 := n0_; have HB := n1_; have HR117 := n2_; have HR128 := n3_; have HO131 := n4_; clear n0_ n1_ n2_ n3_ n4_; clear ho hb hg hat)))
                 go_roundg k2
                 case measure => have := HK1.out; have := HK2.out; omega
                 case rel => exact ⟨(y129), (wrap64 (x4_1 + 1)), (by first | rfl | (simp; done) | (simp [*]; done)), H', ⟨by have := HK1.out; have := HK2.out; omega⟩, ⟨by (with_reducible repeat (first | apply Kd.R_alloc | apply Kd.R_drewN | apply Kd.R_drew)); exact Kd.R_mono HO131.out (fun _ hk => trivial)⟩, ⟨gw_ HB⟩⟩
                ·
                 rw [if_neg c18] at H
                 exact absurd H (by simp)
               ·
                rw [if_neg c15] at H
                exact absurd H (by simp)
              ·
               rw [if_neg c14] at H
               exact absurd H (by simp)
             ·
              rw [if_neg c13] at H
              exact absurd H (by simp)
            ·
             rw [if_neg c12] at H
             exact absurd H (by simp)
          ·
           rw [if_neg c9] at H
           exact absurd H (by simp)
         ·
          rw [if_neg c8] at H
          exact absurd H (by simp)
        ·
         rw [if_neg c6] at H
         exact absurd H (by simp)
       ·
        rw [if_neg c5] at H
        exact absurd H (by simp)
      ·
       rw [if_neg c4] at H
       have c4b0 : decide (0 < x5_2) = false := decide_eq_false c4
       clear c4
       by_cases c24 : 0 ≤ x5_2
       ·
        rw [if_pos c24] at H
        have c24b0 := eq_true c24
        have c24b1 : decide (0 ≤ x5_2) = true := decide_eq_true c24
        clear c24
        by_cases c25 : x5_2 ≤ (x3_1.length : Int)
        ·
         rw [if_pos c25] at H
         have c25b0 := eq_true c25
         have c25b1 : decide (x5_2 ≤ (x3_1.length : Int)) = true := decide_eq_true c25
         clear c25
         obtain ⟨y132, hy132⟩ : ∃ y_ : List Int, y_ = (x3_1.take (x5_2 : Int).toNat) := ⟨_, rfl⟩
         replace H : (if ([] : List Int).length + y132.length < 17592186044416 then ((some (([] : List Int) ++ y132 : List Int)).bind fun y136 => (if 0 ≤ x4_1 then (if x4_1 < (l0.length : Int) then (if y136.length < 17592186044416 then ((some (y136 ++ [rd l0 x4_1] : List Int)).bind fun y140 => ((some (x3_1.drop (x5_2 : Int).toNat : List Int)).bind fun y143 => (if y140.length + y143.length < 17592186044416 then (colloquyref13_Sort.l0 k2 l0 (y140 ++ y143) (wrap64 (x4_1 + 1))) else (none)))) else (none)) else (none)) else (none))) else (none)) = some r := by first | (rw [hy132]; with_reducible exact H) | (have H2_ := (Option.bind_some _ _).symm.trans H; rw [hy132]; with_reducible exact H2_) | (have H2_ := (Option.bind_some _ _).symm.trans H; with_reducible exact H2_) | with_reducible exact H | (rw [hy132]; exact H) | exact H
         have Ny132 := Aside0.mk hy132
         clear hy132
         by_cases c26 : ([] : List Int).length + y132.length < 17592186044416
         ·
          rw [if_pos c26] at H
          have LMc26 := Aside0.mk c26
          clear c26
          obtain ⟨y136, hy136⟩ : ∃ y_ : List Int, y_ = (([] : List Int) ++ y132) := ⟨_, rfl⟩
          replace H : (if 0 ≤ x4_1 then (if x4_1 < (l0.length : Int) then (if y136.length < 17592186044416 then ((some (y136 ++ [rd l0 x4_1] : List Int)).bind fun y140 => ((some (x3_1.drop (x5_2 : Int).toNat : List Int)).bind fun y143 => (if y140.length + y143.length < 17592186044416 then (colloquyref13_Sort.l0 k2 l0 (y140 ++ y143) (wrap64 (x4_1 + 1))) else (none)))) else (none)) else (none)) else (none)) = some r := by first | (rw [hy136]; with_reducible exact H) | (have H2_ := (Option.bind_some _ _).symm.trans H; rw [hy136]; with_reducible exact H2_) | (have H2_ := (Option.bind_some _ _).symm.trans H; with_reducible exact H2_) | with_reducible exact H | (rw [hy136]; exact H) | exact H
          have Ny136 := Aside0.mk hy136
          clear hy136
          by_cases c27 : 0 ≤ x4_1
          ·
           rw [if_pos c27] at H
           have c27b0 : decide (0 ≤ x4_1) = true := decide_eq_true c27
           clear c27
           by_cases c28 : x4_1 < (l0.length : Int)
           ·
            rw [if_pos c28] at H
            have c28b0 : decide (x4_1 < (l0.length : Int)) = true := decide_eq_true c28
            clear c28
            by_cases c29 : y136.length < 17592186044416
            ·
             rw [if_pos c29] at H
             have LMc29 := Aside0.mk c29
             clear c29
             obtain ⟨y140, hy140⟩ : ∃ y_ : List Int, y_ = (y136 ++ [rd l0 x4_1]) := ⟨_, rfl⟩
             replace H : ((some (x3_1.drop (x5_2 : Int).toNat : List Int)).bind fun y143 => (if y140.length + y143.length < 17592186044416 then (colloquyref13_Sort.l0 k2 l0 (y140 ++ y143) (wrap64 (x4_1 + 1))) else (none))) = some r := by first | (rw [hy140]; with_reducible exact H) | (have H2_ := (Option.bind_some _ _).symm.trans H; rw [hy140]; with_reducible exact H2_) | (have H2_ := (Option.bind_some _ _).symm.trans H; with_reducible exact H2_) | with_reducible exact H | (rw [hy140]; exact H) | exact H
             have Ny140 := Aside0.mk hy140
             clear hy140
             have c30b0 := eq_true (of_decide_eq_true (by first | (with_reducible assumption) | assumption) : 0 ≤ x5_2)
             have c31b0 := eq_true (of_decide_eq_true (by first | (with_reducible assumption) | assumption) : x5_2 ≤ (x3_1.length : Int))
             obtain ⟨y143, hy143⟩ : ∃ y_ : List Int, y_ = (x3_1.drop (x5_2 : Int).toNat) := ⟨_, rfl⟩
             replace H : (if y140.length + y143.length < 17592186044416 then (colloquyref13_Sort.l0 k2 l0 (y140 ++ y143) (wrap64 (x4_1 + 1))) else (none)) = some r := by first | (rw [hy143]; with_reducible exact H) | (have H2_ := (Option.bind_some _ _).symm.trans H; rw [hy143]; with_reducible exact H2_) | (have H2_ := (Option.bind_some _ _).symm.trans H; with_reducible exact H2_) | with_reducible exact H | (rw [hy143]; exact H) | exact H
             have Ny143 := Aside0.mk hy143
             clear hy143
             by_cases c32 : y140.length + y143.length < 17592186044416
             ·
              rw [if_pos c32] at H
              have LMc32 := Aside0.mk c32
              clear c32
              obtain ⟨y147, hy147⟩ : ∃ y_ : List Int, y_ = (y140 ++ y143) := ⟨_, rfl⟩
              replace H : (colloquyref13_Sort.l0 k2 l0 y147 (wrap64 (x4_1 + 1))) = some r := by first | (rw [hy147]; with_reducible exact H) | (have H2_ := (Option.bind_some _ _).symm.trans H; rw [hy147]; with_reducible exact H2_) | (have H2_ := (Option.bind_some _ _).symm.trans H; with_reducible exact H2_) | with_reducible exact H | (rw [hy147]; exact H) | exact H
              have Ny147 := Aside0.mk hy147
              clear hy147
              have H' := Aside0.mk H
              clear H
              have q33 : (x5_2 : Int) ≤ ((x3_1.length : Int) : Int) := of_decide_eq_true (by first | (with_reducible assumption) | assumption)
              obtain ⟨i033, hi033, _, hsz33, _⟩ := info_parts info22
              have hroom33 : x3_1.length ≤ co3 := (Kd.R_reads' HO_3.out).2.1
              have hC33 : Kd.C (Kd.int .u64) _ Ao3 x3_1.length x3_1 := (Kd.R_reads' HO_3.out).2.2
              have hcut33 := cut_to (P := Try.prog) 23 22 .i64 Try.underlying23 hi033 Ao3 x3_1.length co3 x5_2 (of_decide_eq_true (by first | (with_reducible assumption) | assumption)) q33 hroom33
              have hr33 := Kd.C_take (m := (x5_2 : Int).toNat) hC33 (by omega)
              have hy33 : y132.length = (x5_2 : Int).toNat := (by rw [Ny132.out, List.length_take]; omega)
              rw [← Ny132.out] at hr33
              rw [← hy33] at hcut33
              have HR135 := Aside0.mk hr33
              have HC135 := Aside0.mk (show y132.length ≤ co3 from by omega)
              clear hr33 hC33 hroom33 hi033 hsz33
              have KY33 := Aside0.mk hy33
              clear hy33
              have KL33 := Aside0.mk (show (x5_2 : Int).toNat ≤ x3_1.length from by omega)
              replace q33 := eq_true q33
              go_wp2_with (first | ((with_reducible refine gate_builtin (b := .append) (xs := #[.const (.slice none 0 0), .tmp 34]) rfl ?_); at_builtin; refine Kd.R_append_rows (Kd.int .u64) (w0 := w) w.heap.size rfl (.const (.slice none 0 0)) (.tmp 34) 23 22 (.int .u64 0) 8 rfl Try.underlying23 info22 rfl (by decide) (by omega) (.slice none 0 0) ([] : List Int) y132 _ _ _ (fun k_ => some k_ ≠ (.slice Ao3 x3_1.length co3 : Value).ownBlock) (fun _ => False) rfl rfl ?aO ?aR (fun _ _ h => h) (fun _ h => h.elim) ?aF ?aB ?aS ?aL ?_; (case aR => repeat (first | exact (by repeat (first | (with_reducible exact HR135.out) | (with_reducible refine Kd.C_alloc ?_ _) | (with_reducible refine Kd.C_drewN ?_ _) | (with_reducible refine Kd.C_drew ?_) | exact HR135.out)) | (with_reducible refine Kd.C_alloc ?_ _) | (with_reducible refine Kd.C_drewN ?_ _) | (with_reducible refine Kd.C_drew ?_))); (case aB => exact (gw_ HB)); (case aF => exact (fun k_ hk => Kd.fresh' (Kd.R_lt (Kd.rk HO_3)) k_ hk)); (case aO => exact ((Kd.R_nil _ _ _ _ (fun k_ => some k_ ≠ (.slice Ao3 x3_1.length co3 : Value).ownBlock)))); (case aS => exact (below_size (gw_ HB))); (case aL => have := LMc26.out; omega); intro v137 w34 ho hb hg hat; rw [← Ny136.out] at ho; have n0_ := Aside0.mk (Kd.R_after (Kd.R_apart_nil (Kd.rk HO_3)) hg hat); have n1_ := Aside0.mk (hb); have n2_ := Aside0.mk ((show Kd.C (Kd.int .u64) w34 Ao3 y132.length y132 from by rw [Ny132.out]; exact Kd.C_take (m := (x5_2 : Int).toNat) ((Kd.R_reads' (Kd.R_after (Kd.R_apart_nil (Kd.rk HO_3)) hg hat)).2.2) KL33.out)); have n3_ := Aside0.mk (ho); clear HO_3; clear HB; clear HR135; have HO_3 := n0_; have HB := n1_; have HR135 := n2_; have HO138 := n3_; clear n0_ n1_ n2_ n3_; clear ho hb hg hat; have p139 : 0 ≤ (x4_1 : Int) := of_decide_eq_true (by first | (with_reducible assumption) | assumption); have q139 : x4_1 < (l0.length : Int) := of_decide_eq_true (by first | (with_reducible assumption) | assumption); obtain ⟨ad139, e139, hx139_0⟩ := Kd.at_int HR0.out x4_1 p139 q139; cases e139; replace hx139_0 := (HB.out.cell (World.block_lt_of_cell? w _ hx139_0)).trans hx139_0; replace p139 := eq_true p139; replace q139 := eq_true q139) | ((with_reducible refine gate_builtin (b := .append) (xs := #[.tmp 36, .tmp 41]) rfl ?_); at_builtin; refine Kd.R_append (Kd.int .u64) (w0 := w) w.heap.size rfl (.tmp 36) (.tmp 41) 23 22 (.int .u64 0) 8 rfl Try.underlying23 info22 rfl (by decide) (by omega) v137 y136 (rd l0 x4_1) [.int .u64 (rd l0 x4_1)] (fun k_ => some k_ ≠ (.slice Ao3 x3_1.length co3 : Value).ownBlock) (fun _ => False) rfl rfl ?aP (fun _ hk => hk.elim) ?aF ?aO ?aB ?aS ?aL ?_; (case aP => exact rfl); (case aB => exact (gw_ HB)); (case aF => exact (fun k_ hk => Kd.fresh' (Kd.R_lt (Kd.rk HO_3)) k_ hk)); (case aO => exact (Kd.rk HO138)); (case aS => exact (below_size (gw_ HB))); (case aL => have := LMc29.out; omega); intro v141 w35 ho hb hg hat; rw [← Ny140.out] at ho; have n0_ := Aside0.mk (Kd.R_after (ok := (fun _ => True)) (Kd.rk HO_3) hg hat); have n1_ := Aside0.mk (hb); have n2_ := Aside0.mk ((show Kd.C (Kd.int .u64) w35 Ao3 y132.length y132 from by rw [Ny132.out]; exact Kd.C_take (m := (x5_2 : Int).toNat) ((Kd.R_reads' (Kd.R_after (ok := (fun _ => True)) (Kd.rk HO_3) hg hat)).2.2) KL33.out)); have n3_ := Aside0.mk (ho); clear HO_3; clear HB; clear HR135; clear HO138; have HO_3 := n0_; have HB := n1_; have HR135 := n2_; have HO142 := n3_; clear n0_ n1_ n2_ n3_; clear ho hb hg hat; have q36 : (x5_2 : Int) ≤ ((x3_1.length : Int) : Int) := of_decide_eq_true (by first | (with_reducible assumption) | assumption); obtain ⟨i036, hi036, _, hsz36, _⟩ := info_parts info22; have hroom36 : x3_1.length ≤ co3 := (Kd.R_reads' HO_3.out).2.1; have hC36 : Kd.C (Kd.int .u64) _ Ao3 x3_1.length x3_1 := (Kd.R_reads' HO_3.out).2.2; have q036 : (0 : Int) ≤ (x5_2 : Int) := of_decide_eq_true (by first | (with_reducible assumption) | assumption); have hcut36 := cut_from (P := Try.prog) 23 22 .i64 Try.underlying23 hi036 1 hsz36 Ao3 x3_1.length co3 x5_2 q036 q36; have hr36 := Kd.C_drop (m := (x5_2 : Int).toNat) (c := co3) hC36 (by omega) hroom36; obtain ⟨A36, hA36⟩ : ∃ A1, A1 = (if co3 = (x5_2 : Int).toNat then Ao3 else (Ao3 : Option Addr).map (·.add ((x5_2 : Int).toNat * 1))) := ⟨_, rfl⟩; obtain ⟨c36, hc36⟩ : ∃ c1, c1 = co3 - (x5_2 : Int).toNat := ⟨_, rfl⟩; have hy36 : y143.length = x3_1.length - (x5_2 : Int).toNat := (by rw [Ny143.out, List.length_drop] <;> omega); rw [show (x3_1).drop (x5_2 : Int).toNat = y143 from Ny143.out.symm] at hr36; replace hr36 : Kd.C (Kd.int .u64) _ A36 y143.length y143 := (by rw [hA36]; exact hr36); rw [← hy36, ← hA36, ← hc36] at hcut36; have HR146 := Aside0.mk hr36; have HC146 := Aside0.mk (show y143.length ≤ c36 from by rw [hy36, hc36]; exact Nat.sub_le_sub_right hroom36 _); clear hr36 hC36 hroom36 hi036 hsz36 hc36; have KY36 := Aside0.mk hy36; have KA36 := Aside0.mk hA36; clear hy36 hA36; have KL36 := Aside0.mk (show (x5_2 : Int).toNat ≤ x3_1.length from by omega); replace q36 := eq_true q36) | ((with_reducible refine gate_builtin (b := .append) (xs := #[.tmp 43, .tmp 46]) rfl ?_); at_builtin; refine Kd.R_append_rows (Kd.int .u64) (w0 := w) w.heap.size rfl (.tmp 43) (.tmp 46) 23 22 (.int .u64 0) 8 rfl Try.underlying23 info22 rfl (by decide) (by omega) v141 y140 y143 _ _ _ (fun k_ => some k_ ≠ (.slice Ao3 x3_1.length co3 : Value).ownBlock) (fun _ => False) rfl rfl ?aO ?aR (fun _ _ h => h) (fun _ h => h.elim) ?aF ?aB ?aS ?aL ?_; (case aR => repeat (first | exact (by repeat (first | (with_reducible exact HR146.out) | (with_reducible refine Kd.C_alloc ?_ _) | (with_reducible refine Kd.C_drewN ?_ _) | (with_reducible refine Kd.C_drew ?_) | exact HR146.out)) | (with_reducible refine Kd.C_alloc ?_ _) | (with_reducible refine Kd.C_drewN ?_ _) | (with_reducible refine Kd.C_drew ?_))); (case aB => exact (gw_ HB)); (case aF => exact (fun k_ hk => Kd.fresh' (Kd.R_lt (Kd.rk HO_3)) k_ hk)); (case aO => exact (Kd.rk HO142)); (case aS => exact (below_size (gw_ HB))); (case aL => have := LMc32.out; omega); intro v148 w37 ho hb hg hat; rw [← Ny147.out] at ho; have n0_ := Aside0.mk (Kd.R_after (ok := (fun _ => True)) (Kd.rk HO_3) hg hat); have n1_ := Aside0.mk (hb); have n2_ := Aside0.mk ((show Kd.C (Kd.int .u64) w37 Ao3 y132.length y132 from by rw [Ny132.out]; exact Kd.C_take (m := (x5_2 : Int).toNat) ((Kd.R_reads' (Kd.R_after (ok := (fun _ => True)) (Kd.rk HO_3) hg hat)).2.2) KL33.out)); have n3_ := Aside0.mk ((show Kd.C (Kd.int .u64) w37 A36 y143.length y143 from by rw [Ny143.out, KA36.out]; exact Kd.C_drop (m := (x5_2 : Int).toNat) (c := co3) ((Kd.R_reads' (Kd.R_after (ok := (fun _ => True)) (Kd.rk HO_3) hg hat)).2.2) KL36.out ((Kd.R_reads' (Kd.R_after (ok := (fun _ => True)) (Kd.rk HO_3) hg hat)).2.1))); have n4_ := Aside0.mk (ho); clear HO_3; clear HB; clear HR135; clear HR146; clear HO142; have HO_3 := n0_; have HB := n1_; have HR135 := n2_; have HR146 := n3_; have HO149 := n4_; clear n0_ n1_ n2_ n3_ n4_; clear ho hb hg hat))
              repeat (go_quiet (first | ((with_reducible refine gate_builtin (b := .append) (xs := #[.const (.slice none 0 0), .tmp 34]) rfl ?_); at_builtin; refine Kd.R_append_rows (Kd.int .u64) (w0 := w) w.heap.size rfl (.const (.slice none 0 0)) (.tmp 34) 23 22 (.int .u64 0) 8 rfl Try.underlying23 info22 rfl (by decide) (by omega) (.slice none 0 0) ([] : List Int) y132 _ _ _ (fun k_ => some k_ ≠ (.slice Ao3 x3_1.length co3 : Value).ownBlock) (fun _ => False) rfl rfl ?aO ?aR (fun _ _ h => h) (fun _ h => h.elim) ?aF ?aB ?aS ?aL ?_; (case aR => repeat (first | exact (by repeat (first | (with_reducible exact HR135.out) | (with_reducible refine Kd.C_alloc ?_ _) | (with_reducible refine Kd.C_drewN ?_ _) | (with_reducible refine Kd.C_drew ?_) | exact HR135.out)) | (with_reducible refine Kd.C_alloc ?_ _) | (with_reducible refine Kd.C_drewN ?_ _) | (with_reducible refine Kd.C_drew ?_))); (case aB => exact (gw_ HB)); (case aF => exact (fun k_ hk => Kd.fresh' (Kd.R_lt (Kd.rk HO_3)) k_ hk)); (case aO => exact ((Kd.R_nil _ _ _ _ (fun k_ => some k_ ≠ (.slice Ao3 x3_1.length co3 : Value).ownBlock)))); (case aS => exact (below_size (gw_ HB))); (case aL => have := LMc26.out; omega); intro v137 w34 ho hb hg hat; rw [← Ny136.out] at ho; have n0_ := Aside0.mk (Kd.R_after (Kd.R_apart_nil (Kd.rk HO_3)) hg hat); have n1_ := Aside0.mk (hb); have n2_ := Aside0.mk ((show Kd.C (Kd.int .u64) w34 Ao3 y132.length y132 from by rw [Ny132.out]; exact Kd.C_take (m := (x5_2 : Int).toNat) ((Kd.R_reads' (Kd.R_after (Kd.R_apart_nil (Kd.rk HO_3)) hg hat)).2.2) KL33.out)); have n3_ := Aside0.mk (ho); clear HO_3; clear HB; clear HR135; have HO_3 := n0_; have HB := n1_; have HR135 := n2_; have HO138 := n3_; clear n0_ n1_ n2_ n3_; clear ho hb hg hat; have p139 : 0 ≤ (x4_1 : Int) := of_decide_eq_true (by first | (with_reducible assumption) | assumption); have q139 : x4_1 < (l0.length : Int) := of_decide_eq_true (by first | (with_reducible assumption) | assumption); obtain ⟨ad139, e139, hx139_0⟩ := Kd.at_int HR0.out x4_1 p139 q139; cases e139; replace hx139_0 := (HB.out.cell (World.block_lt_of_cell? w _ hx139_0)).trans hx139_0; replace p139 := eq_true p139; replace q139 := eq_true q139) | ((with_reducible refine gate_builtin (b := .append) (xs := #[.tmp 36, .tmp 41]) rfl ?_); at_builtin; refine Kd.R_append (Kd.int .u64) (w0 := w) w.heap.size rfl (.tmp 36) (.tmp 41) 23 22 (.int .u64 0) 8 rfl Try.underlying23 info22 rfl (by decide) (by omega) v137 y136 (rd l0 x4_1) [.int .u64 (rd l0 x4_1)] (fun k_ => some k_ ≠ (.slice Ao3 x3_1.length co3 : Value).ownBlock) (fun _ => False) rfl rfl ?aP (fun _ hk => hk.elim) ?aF ?aO ?aB ?aS ?aL ?_; (case aP => exact rfl); (case aB => exact (gw_ HB)); (case aF => exact (fun k_ hk => Kd.fresh' (Kd.R_lt (Kd.rk HO_3)) k_ hk)); (case aO => exact (Kd.rk HO138)); (case aS => exact (below_size (gw_ HB))); (case aL => have := LMc29.out; omega); intro v141 w35 ho hb hg hat; rw [← Ny140.out] at ho; have n0_ := Aside0.mk (Kd.R_after (ok := (fun _ => True)) (Kd.rk HO_3) hg hat); have n1_ := Aside0.mk (hb); have n2_ := Aside0.mk ((show Kd.C (Kd.int .u64) w35 Ao3 y132.length y132 from by rw [Ny132.out]; exact Kd.C_take (m := (x5_2 : Int).toNat) ((Kd.R_reads' (Kd.R_after (ok := (fun _ => True)) (Kd.rk HO_3) hg hat)).2.2) KL33.out)); have n3_ := Aside0.mk (ho); clear HO_3; clear HB; clear HR135; clear HO138; have HO_3 := n0_; have HB := n1_; have HR135 := n2_; have HO142 := n3_; clear n0_ n1_ n2_ n3_; clear ho hb hg hat; have q36 : (x5_2 : Int) ≤ ((x3_1.length : Int) : Int) := of_decide_eq_true (by first | (with_reducible assumption) | assumption); obtain ⟨i036, hi036, _, hsz36, _⟩ := info_parts info22; have hroom36 : x3_1.length ≤ co3 := (Kd.R_reads' HO_3.out).2.1; have hC36 : Kd.C (Kd.int .u64) _ Ao3 x3_1.length x3_1 := (Kd.R_reads' HO_3.out).2.2; have q036 : (0 : Int) ≤ (x5_2 : Int) := of_decide_eq_true (by first | (with_reducible assumption) | assumption); have hcut36 := cut_from (P := Try.prog) 23 22 .i64 Try.underlying23 hi036 1 hsz36 Ao3 x3_1.length co3 x5_2 q036 q36; have hr36 := Kd.C_drop (m := (x5_2 : Int).toNat) (c := co3) hC36 (by omega) hroom36; obtain ⟨A36, hA36⟩ : ∃ A1, A1 = (if co3 = (x5_2 : Int).toNat then Ao3 else (Ao3 : Option Addr).map (·.add ((x5_2 : Int).toNat * 1))) := ⟨_, rfl⟩; obtain ⟨c36, hc36⟩ : ∃ c1, c1 = co3 - (x5_2 : Int).toNat := ⟨_, rfl⟩; have hy36 : y143.length = x3_1.length - (x5_2 : Int).toNat := (by rw [Ny143.out, List.length_drop] <;> omega); rw [show (x3_1).drop (x5_2 : Int).toNat = y143 from Ny143.out.symm] at hr36; replace hr36 : Kd.C (Kd.int .u64) _ A36 y143.length y143 := (by rw [hA36]; exact hr36); rw [← hy36, ← hA36, ← hc36] at hcut36; have HR146 := Aside0.mk hr36; have HC146 := Aside0.mk (show y143.length ≤ c36 from by rw [hy36, hc36]; exact Nat.sub_le_sub_right hroom36 _); clear hr36 hC36 hroom36 hi036 hsz36 hc36; have KY36 := Aside0.mk hy36; have KA36 := Aside0.mk hA36; clear hy36 hA36; have KL36 := Aside0.mk (show (x5_2 : Int).toNat ≤ x3_1.length from by omega); replace q36 := eq_true q36) | ((with_reducible refine gate_builtin (b := .append) (xs := #[.tmp 43, .tmp 46]) rfl ?_); at_builtin; refine Kd.R_append_rows (Kd.int .u64) (w0 := w) w.heap.size rfl (.tmp 43) (.tmp 46) 23 22 (.int .u64 0) 8 rfl Try.underlying23 info22 rfl (by decide) (by omega) v141 y140 y143 _ _ _ (fun k_ => some k_ ≠ (.slice Ao3 x3_1.length co3 : Value).ownBlock) (fun _ => False) rfl rfl ?aO ?aR (fun _ _ h => h) (fun _ h => h.elim) ?aF ?aB ?aS ?aL ?_; (case aR => repeat (first | exact (by repeat (first | (with_reducible exact HR146.out) | (with_reducible refine Kd.C_alloc ?_ _) | (with_reducible refine Kd.C_drewN ?_ _) | (with_reducible refine Kd.C_drew ?_) | exact HR146.out)) | (with_reducible refine Kd.C_alloc ?_ _) | (with_reducible refine Kd.C_drewN ?_ _) | (with_reducible refine Kd.C_drew ?_))); (case aB => exact (gw_ HB)); (case aF => exact (fun k_ hk => Kd.fresh' (Kd.R_lt (Kd.rk HO_3)) k_ hk)); (case aO => exact (Kd.rk HO142)); (case aS => exact (below_size (gw_ HB))); (case aL => have := LMc32.out; omega); intro v148 w37 ho hb hg hat; rw [← Ny147.out] at ho; have n0_ := Aside0.mk (Kd.R_after (ok := (fun _ => True)) (Kd.rk HO_3) hg hat); have n1_ := Aside0.mk (hb); have n2_ := Aside0.mk ((show Kd.C (Kd.int .u64) w37 Ao3 y132.length y132 from by rw [Ny132.out]; exact Kd.C_take (m := (x5_2 : Int).toNat) ((Kd.R_reads' (Kd.R_after (ok := (fun _ => True)) (Kd.rk HO_3) hg hat)).2.2) KL33.out)); have n3_ := Aside0.mk ((show Kd.C (Kd.int .u64) w37 A36 y143.length y143 from by rw [Ny143.out, KA36.out]; exact Kd.C_drop (m := (x5_2 : Int).toNat) (c := co3) ((Kd.R_reads' (Kd.R_after (ok := (fun _ => True)) (Kd.rk HO_3) hg hat)).2.2) KL36.out ((Kd.R_reads' (Kd.R_after (ok := (fun _ => True)) (Kd.rk HO_3) hg hat)).2.1))); have n4_ := Aside0.mk (ho); clear HO_3; clear HB; clear HR135; clear HR146; clear HO142; have HO_3 := n0_; have HB := n1_; have HR135 := n2_; have HR146 := n3_; have HO149 := n4_; clear n0_ n1_ n2_ n3_ n4_; clear ho hb hg hat)); try go_wp2_with (first | ((with_reducible refine gate_builtin (b := .append) (xs := #[.const (.slice none 0 0), .tmp 34]) rfl ?_); at_builtin; refine Kd.R_append_rows (Kd.int .u64) (w0 := w) w.heap.size rfl (.const (.slice none 0 0)) (.tmp 34) 23 22 (.int .u64 0) 8 rfl Try.underlying23 info22 rfl (by decide) (by omega) (.slice none 0 0) ([] : List Int) y132 _ _ _ (fun k_ => some k_ ≠ (.slice Ao3 x3_1.length co3 : Value).ownBlock) (fun _ => False) rfl rfl ?aO ?aR (fun _ _ h => h) (fun _ h => h.elim) ?aF ?aB ?aS ?aL ?_; (case aR => repeat (first | exact (by repeat (first | (with_reducible exact HR135.out) | (with_reducible refine Kd.C_alloc ?_ _) | (with_reducible refine Kd.C_drewN ?_ _) | (with_reducible refine Kd.C_drew ?_) | exact HR135.out)) | (with_reducible refine Kd.C_alloc ?_ _) | (with_reducible refine Kd.C_drewN ?_ _) | (with_reducible refine Kd.C_drew ?_))); (case aB => exact (gw_ HB)); (case aF => exact (fun k_ hk => Kd.fresh' (Kd.R_lt (Kd.rk HO_3)) k_ hk)); (case aO => exact ((Kd.R_nil _ _ _ _ (fun k_ => some k_ ≠ (.slice Ao3 x3_1.length co3 : Value).ownBlock)))); (case aS => exact (below_size (gw_ HB))); (case aL => have := LMc26.out; omega); intro v137 w34 ho hb hg hat; rw [← Ny136.out] at ho; have n0_ := Aside0.mk (Kd.R_after (Kd.R_apart_nil (Kd.rk HO_3)) hg hat); have n1_ := Aside0.mk (hb); have n2_ := Aside0.mk ((show Kd.C (Kd.int .u64) w34 Ao3 y132.length y132 from by rw [Ny132.out]; exact Kd.C_take (m := (x5_2 : Int).toNat) ((Kd.R_reads' (Kd.R_after (Kd.R_apart_nil (Kd.rk HO_3)) hg hat)).2.2) KL33.out)); have n3_ := Aside0.mk (ho); clear HO_3; clear HB; clear HR135; have HO_3 := n0_; have HB := n1_; have HR135 := n2_; have HO138 := n3_; clear n0_ n1_ n2_ n3_; clear ho hb hg hat; have p139 : 0 ≤ (x4_1 : Int) := of_decide_eq_true (by first | (with_reducible assumption) | assumption); have q139 : x4_1 < (l0.length : Int) := of_decide_eq_true (by first | (with_reducible assumption) | assumption); obtain ⟨ad139, e139, hx139_0⟩ := Kd.at_int HR0.out x4_1 p139 q139; cases e139; replace hx139_0 := (HB.out.cell (World.block_lt_of_cell? w _ hx139_0)).trans hx139_0; replace p139 := eq_true p139; replace q139 := eq_true q139) | ((with_reducible refine gate_builtin (b := .append) (xs := #[.tmp 36, .tmp 41]) rfl ?_); at_builtin; refine Kd.R_append (Kd.int .u64) (w0 := w) w.heap.size rfl (.tmp 36) (.tmp 41) 23 22 (.int .u64 0) 8 rfl Try.underlying23 info22 rfl (by decide) (by omega) v137 y136 (rd l0 x4_1) [.int .u64 (rd l0 x4_1)] (fun k_ => some k_ ≠ (.slice Ao3 x3_1.length co3 : Value).ownBlock) (fun _ => False) rfl rfl ?aP (fun _ hk => hk.elim) ?aF ?aO ?aB ?aS ?aL ?_; (case aP => exact rfl); (case aB => exact (gw_ HB)); (case aF => exact (fun k_ hk => Kd.fresh' (Kd.R_lt (Kd.rk HO_3)) k_ hk)); (case aO => exact (Kd.rk HO138)); (case aS => exact (below_size (gw_ HB))); (case aL => have := LMc29.out; omega); intro v141 w35 ho hb hg hat; rw [← Ny140.out] at ho; have n0_ := Aside0.mk (Kd.R_after (ok := (fun _ => True)) (Kd.rk HO_3) hg hat); have n1_ := Aside0.mk (hb); have n2_ := Aside0.mk ((show Kd.C (Kd.int .u64) w35 Ao3 y132.length y132 from by rw [Ny132.out]; exact Kd.C_take (m := (x5_2 : Int).toNat) ((Kd.R_reads' (Kd.R_after (ok := (fun _ => True)) (Kd.rk HO_3) hg hat)).2.2) KL33.out)); have n3_ := Aside0.mk (ho); clear HO_3; clear HB; clear HR135; clear HO138; have HO_3 := n0_; have HB := n1_; have HR135 := n2_; have HO142 := n3_; clear n0_ n1_ n2_ n3_; clear ho hb hg hat; have q36 : (x5_2 : Int) ≤ ((x3_1.length : Int) : Int) := of_decide_eq_true (by first | (with_reducible assumption) | assumption); obtain ⟨i036, hi036, _, hsz36, _⟩ := info_parts info22; have hroom36 : x3_1.length ≤ co3 := (Kd.R_reads' HO_3.out).2.1; have hC36 : Kd.C (Kd.int .u64) _ Ao3 x3_1.length x3_1 := (Kd.R_reads' HO_3.out).2.2; have q036 : (0 : Int) ≤ (x5_2 : Int) := of_decide_eq_true (by first | (with_reducible assumption) | assumption); have hcut36 := cut_from (P := Try.prog) 23 22 .i64 Try.underlying23 hi036 1 hsz36 Ao3 x3_1.length co3 x5_2 q036 q36; have hr36 := Kd.C_drop (m := (x5_2 : Int).toNat) (c := co3) hC36 (by omega) hroom36; obtain ⟨A36, hA36⟩ : ∃ A1, A1 = (if co3 = (x5_2 : Int).toNat then Ao3 else (Ao3 : Option Addr).map (·.add ((x5_2 : Int).toNat * 1))) := ⟨_, rfl⟩; obtain ⟨c36, hc36⟩ : ∃ c1, c1 = co3 - (x5_2 : Int).toNat := ⟨_, rfl⟩; have hy36 : y143.length = x3_1.length - (x5_2 : Int).toNat := (by rw [Ny143.out, List.length_drop] <;> omega); rw [show (x3_1).drop (x5_2 : Int).toNat = y143 from Ny143.out.symm] at hr36; replace hr36 : Kd.C (Kd.int .u64) _ A36 y143.length y143 := (by rw [hA36]; exact hr36); rw [← hy36, ← hA36, ← hc36] at hcut36; have HR146 := Aside0.mk hr36; have HC146 := Aside0.mk (show y143.length ≤ c36 from by rw [hy36, hc36]; exact Nat.sub_le_sub_right hroom36 _); clear hr36 hC36 hroom36 hi036 hsz36 hc36; have KY36 := Aside0.mk hy36; have KA36 := Aside0.mk hA36; clear hy36 hA36; have KL36 := Aside0.mk (show (x5_2 : Int).toNat ≤ x3_1.length from by omega); replace q36 := eq_true q36) | ((with_reducible refine gate_builtin (b := .append) (xs := #[.tmp 43, .tmp 46]) rfl ?_); at_builtin; refine Kd.R_append_rows (Kd.int .u64) (w0 := w) w.heap.size rfl (.tmp 43) (.tmp 46) 23 22 (.int .u64 0) 8 rfl Try.underlying23 info22 rfl (by decide) (by omega) v141 y140 y143 _ _ _ (fun k_ => some k_ ≠ (.slice Ao3 x3_1.length co3 : Value).ownBlock) (fun _ => False) rfl rfl ?aO ?aR (fun _ _ h => h) (fun _ h => h.elim) ?aF ?aB ?aS ?aL ?_; (case aR => repeat (first | exact (by repeat (first | (with_reducible exact HR146.out) | (with_reducible refine Kd.C_alloc ?_ _) | (with_reducible refine Kd.C_drewN ?_ _) | (with_reducible refine Kd.C_drew ?_) | exact HR146.out)) | (with_reducible refine Kd.C_alloc ?_ _) | (with_reducible refine Kd.C_drewN ?_ _) | (with_reducible refine Kd.C_drew ?_))); (case aB => exact (gw_ HB)); (case aF => exact (fun k_ hk => Kd.fresh' (Kd.R_lt (Kd.rk HO_3)) k_ hk)); (case aO => exact (Kd.rk HO142)); (case aS => exact (below_size (gw_ HB))); (case aL => have := LMc32.out; omega); intro v148 w37 ho hb hg hat; rw [← Ny147.out] at ho; have n0_ := Aside0.mk (Kd.R_after (ok := (fun _ => True)) (Kd.rk HO_3) hg hat); have n1_ := Aside0.mk (hb); have n2_ := Aside0.mk ((show Kd.C (Kd.int .u64) w37 Ao3 y132.length y132 from by rw [Ny132.out]; exact Kd.C_take (m := (x5_2 : Int).toNat) ((Kd.R_reads' (Kd.R_after (ok := (fun _ => True)) (Kd.rk HO_3) hg hat)).2.2) KL33.out)); have n3_ := Aside0.mk ((show Kd.C (Kd.int .u64) w37 A36 y143.length y143 from by rw [Ny143.out, KA36.out]; exact Kd.C_drop (m := (x5_2 : Int).toNat) (c := co3) ((Kd.R_reads' (Kd.R_after (ok := (fun _ => True)) (Kd.rk HO_3) hg hat)).2.2) KL36.out ((Kd.R_reads' (Kd.R_after (ok := (fun _ => True)) (Kd.rk HO_3) hg hat)).2.1))); have n4_ := Aside0.mk (ho); clear HO_3; clear HB; clear HR135; clear HR146; clear HO142; have HO_3 := n0_; have HB := n1_; have HR135 := n2_; have HR146 := n3_; have HO149 := n4_; clear n0_ n1_ n2_ n3_ n4_; clear ho hb hg hat)))
              go_roundg k2
              case measure => have := HK1.out; have := HK2.out; omega
              case rel => exact ⟨(y147), (wrap64 (x4_1 + 1)), (by first | rfl | (simp; done) | (simp [*]; done)), H', ⟨by have := HK1.out; have := HK2.out; omega⟩, ⟨by (with_reducible repeat (first | apply Kd.R_alloc | apply Kd.R_drewN | apply Kd.R_drew)); exact Kd.R_mono HO149.out (fun _ hk => trivial)⟩, ⟨gw_ HB⟩⟩
             ·
              rw [if_neg c32] at H
              exact absurd H (by simp)
            ·
             rw [if_neg c29] at H
             exact absurd H (by simp)
           ·
            rw [if_neg c28] at H
            exact absurd H (by simp)
          ·
           rw [if_neg c27] at H
           exact absurd H (by simp)
         ·
          rw [if_neg c26] at H
          exact absurd H (by simp)
        ·
         rw [if_neg c25] at H
         exact absurd H (by simp)
       ·
        rw [if_neg c24] at H
        exact absurd H (by simp)
   ·
    rw [if_neg c2] at H
    have c2b0 : decide (x4_1 < (l0.length : Int)) = false := decide_eq_false c2
    clear c2
    obtain rfl := Option.some.inj H
    go_wp2
    repeat (go_quiet (fail); try go_wp2)
    go_ret
    exact ⟨_, by first | rfl | (simp [errW_none, errW_some] <;> rfl) | (simp [*, errW_none, errW_some] <;> rfl), by (with_reducible repeat (first | apply Kd.R_alloc | apply Kd.R_drewN | apply Kd.R_drew)); exact HO_3.out, gw_ HB⟩

-- NOT PRINTED: function 31 (math_Signbit)

-- NOT PRINTED: function 42 (cmp_isNaN_float64)

-- NOT PRINTED: function 32 (cmp_Compare_float64)

/-! ### score_Cmp: function 18, by hand -/
-- making: no
def score_Cmp.f (x y : Int) : Option Int := if (0 ≤ x ∧ x < 2 ^ 64) ∧ 0 ≤ y ∧ y < 2 ^ 64 then some (Fl.cmpW x.toNat y.toNat) else none
theorem score_Cmp.calls (a0 : Int) (a1 : Int) (r : Int) (w : World) (h : score_Cmp.f a0 a1 = some r) :
    Calls Try.prog 18 #[.int .u64 a0, .int .u64 a1] w fun e w' => e = .returned (.int .i64 r) ∧ Drawn0 w w' := by
  unfold score_Cmp.f at h
  by_cases hx : (0 ≤ a0 ∧ a0 < 2 ^ 64) ∧ 0 ≤ a1 ∧ a1 < 2 ^ 64
  · rw [if_pos hx] at h
    obtain rfl := Option.some.inj h
    refine (cmp_calls a0 a1 hx.1.1 hx.1.2 hx.2.1 hx.2.2 w).mono ?_
    rintro e w1 ⟨rfl, q, rfl⟩
    exact ⟨rfl, q, rfl⟩
  · rw [if_neg hx] at h; cases h

/-! ### colloquylaw13_ScoreOrders: function 3 -/
def colloquylaw13_ScoreOrders.j0 : Nat → Int → Int → List Int → Bool → Bool → Option (Bool)
 | 0, _, _, _, _, _ => none
 | k + 1, x0, x1, x2, x7, x20 => if x20 = true then (some x7) else ((score_Floor.f x0).bind fun bt151 => ((colloquyref13_Floor.f k x0).bind fun bt153 => ((score_Sort.f x2).bind fun t155 => ((colloquyref13_Sort.f k x2).bind fun t158 => ((colloquyref13_Same.f k t155 t158).bind fun t161 => (if t161 = true then (if bt151.1 = bt153.1 then (if (bt151.2 == bt153.2) = true then ((score_Cmp.f x0 x1).bind fun t162 => ((colloquyref13_Cmp.f x0 x1).bind fun t163 => (some (t162 == t163)))) else (some false)) else (some false)) else (some false)))))))
def colloquylaw13_ScoreOrders.f (k : Nat) (a0 : Int) (a1 : Int) (l2 : List Int) : Option (Bool) := (colloquylaw13_awake.f).bind fun t150 => (if t150 = true then (colloquylaw13_ScoreOrders.j0 k a0 a1 l2 t150 (decide ((l2.length : Int) > 60))) else (colloquylaw13_ScoreOrders.j0 k a0 a1 l2 t150 true))
theorem colloquylaw13_ScoreOrders.mono_l : ∀ k, (∀ y0 y1 y2 y3 y4, LeO (colloquylaw13_ScoreOrders.j0 k y0 y1 y2 y3 y4) (colloquylaw13_ScoreOrders.j0 (k + 1) y0 y1 y2 y3 y4))
 | 0 => fun _ _ _ _ _ r h => by simp [colloquylaw13_ScoreOrders.j0] at h
 | k + 1 => by
  have ih0 := colloquylaw13_ScoreOrders.mono_l k
  ·
   intro y0 y1 y2 y3 y4
   unfold colloquylaw13_ScoreOrders.j0
   repeat' first
   | (with_reducible exact ih0 _ _ _ _ _)
   | (with_reducible exact colloquyref13_Floor.mono _ _)
   | (with_reducible exact colloquyref13_Same.mono _ _ _)
   | (with_reducible exact colloquyref13_Sort.mono _ _)
   | (with_reducible exact LeO.refl _)
   | (with_reducible exact LeO.none _)
   | (with_reducible refine LeO.ite ?_ ?_)
   | (with_reducible refine LeO.bind ?_ (fun _ => ?_))
   | exact ih0 _ _ _ _ _
   | exact colloquyref13_Floor.mono _ _
   | exact colloquyref13_Same.mono _ _ _
   | exact colloquyref13_Sort.mono _ _
   | exact LeO.none _
   | refine LeO.ite ?_ ?_
   | refine LeO.bind ?_ (fun _ => ?_)
theorem colloquylaw13_ScoreOrders.mono : ∀ a0 a1 a2 k, LeO (colloquylaw13_ScoreOrders.f k a0 a1 a2) (colloquylaw13_ScoreOrders.f (k + 1) a0 a1 a2) := by
 intro a0 a1 a2 k
 have ih0 := colloquylaw13_ScoreOrders.mono_l k
 unfold colloquylaw13_ScoreOrders.f
 repeat' first
   | (with_reducible exact ih0 _ _ _ _ _)
   | (with_reducible exact colloquyref13_Floor.mono _ _)
   | (with_reducible exact colloquyref13_Same.mono _ _ _)
   | (with_reducible exact colloquyref13_Sort.mono _ _)
   | (with_reducible exact LeO.refl _)
   | (with_reducible exact LeO.none _)
   | (with_reducible refine LeO.ite ?_ ?_)
   | (with_reducible refine LeO.bind ?_ (fun _ => ?_))
   | exact ih0 _ _ _ _ _
   | exact colloquyref13_Floor.mono _ _
   | exact colloquyref13_Same.mono _ _ _
   | exact colloquyref13_Sort.mono _ _
   | exact LeO.none _
   | refine LeO.ite ?_ ?_
   | refine LeO.bind ?_ (fun _ => ?_)
set_option maxHeartbeats 8000000 in
set_option maxRecDepth 100000 in
theorem colloquylaw13_ScoreOrders.calls (k : Nat) (a0 : Int) (a1 : Int) (A2 : Option Addr) (c2 : Nat) (l2 : List Int) (r : Bool) (w : World) (hr2 : Kd.C (Kd.int .u64) w A2 l2.length l2) (hc2 : l2.length ≤ c2) (hrt : r = true) (h : colloquylaw13_ScoreOrders.f k a0 a1 l2 = some r) :
  Calls Try.prog 3 #[.int .u64 a0, .int .u64 a1, .slice A2 l2.length c2] w fun e w' => e = .returned (.bool r) ∧ Below w.heap.size w w' := by
 have HRT := Aside0.mk hrt
 clear hrt
 have HR2 := Aside0.mk hr2
 have HC2 := Aside0.mk hc2
 clear hr2 hc2
 have HB := Aside0.mk (Below.refl w.heap.size w)
 have H : ((colloquylaw13_awake.f).bind fun t150 => (if t150 = true then (colloquylaw13_ScoreOrders.j0 k a0 a1 l2 t150 (decide ((l2.length : Int) > 60))) else (colloquylaw13_ScoreOrders.j0 k a0 a1 l2 t150 true))) = some r := h
 clear h
 replace H := Option.bind_eq_some_iff.mp H
 obtain ⟨t150, A40, H⟩ := H
 replace H : (if t150 = true then (colloquylaw13_ScoreOrders.j0 k a0 a1 l2 t150 (decide ((l2.length : Int) > 60))) else (colloquylaw13_ScoreOrders.j0 k a0 a1 l2 t150 true)) = some r := H
 have A4 := Aside0.mk A40
 clear A40
 have HC5 := Aside0.mk H
 clear H
 go_enter Try.func3, Try.ntmps3
 go_upto_region 2 with (first | ((with_reducible refine gate_callee (f := 12) rfl ?_); refine goesL_ (some 13) rfl rfl Try.func12 (by kernel_rfl) rfl #[] rfl (by (try simp only [List.map_toArray, List.map_cons, List.map_nil]); first | done | rfl | (simp only [List.length_drop, List.length_take]; rfl)) ?_; (with_reducible refine (colloquylaw13_awake.calls  t150 _ A4.out).mono ?_); rintro e w' ⟨rfl, ⟨nd, rfl⟩⟩; refine ⟨_, rfl, ?_⟩))
 (try simp only [Act.put, List.setIfInBounds_toArray, List.set_cons_zero, List.set_cons_succ])
 go_cut [20] (fun v20 wc => ∃ (kq : Nat) (x20_4 : Bool), v20 = .bool x20_4 ∧ Aside0 (colloquylaw13_ScoreOrders.j0 kq a0 a1 l2 t150 x20_4 = some r) ∧ Aside0 (kq ≤ k) ∧ Aside0 (Below w.heap.size w wc))
 case first =>
  have H := HC5.out
  clear HC5
  by_cases c6 : t150 = true
  ·
   subst c6
   have H1 : (colloquylaw13_ScoreOrders.j0 k a0 a1 l2 true (decide ((l2.length : Int) > 60))) = some r := by rw [if_pos rfl] at H; exact H
   clear H
   have H := H1
   clear H1
   have H' := Aside0.mk H
   clear H
   go_wp2
   go_meet
   case rel => exact ⟨_, (decide ((l2.length : Int) > 60)), (by first | rfl | (simp; done) | (simp [*]; done)), H', ⟨by first | omega | exact Nat.le_refl _⟩, ⟨gw_ HB⟩⟩
  ·
   replace c6 := Bool.eq_false_iff.mpr c6
   subst c6
   have H1 : (colloquylaw13_ScoreOrders.j0 k a0 a1 l2 false true) = some r := by rw [if_neg (show ¬ (false = true) by decide)] at H; exact H
   clear H
   have H := H1
   clear H1
   have H' := Aside0.mk H
   clear H
   go_wp2
   go_meet
   case rel => exact ⟨_, (true), (by first | rfl | (simp; done) | (simp [*]; done)), H', ⟨by first | omega | exact Nat.le_refl _⟩, ⟨gw_ HB⟩⟩
 case rest =>
  clear HC5
  try clear c1
  try clear c2
  try clear p2
  try clear c3
  try clear c6
  obtain ⟨kq, x20_4, rfl, HA, HJ4, HB⟩ := hcut
  cases kq with
  | zero => exact absurd HA.out (by simp [colloquylaw13_ScoreOrders.j0])
  | succ kj4 =>
   have H := HA.out
   clear HA
   simp only [colloquylaw13_ScoreOrders.j0] at H
   by_cases c7 : x20_4 = true
   ·
    subst c7
    have H1 : (some t150) = some r := by rw [if_pos rfl] at H; exact H
    clear H
    have H := H1
    clear H1
    obtain rfl := Option.some.inj H
    go_wp2
    go_ret
    exact ⟨by first | rfl | (simp [errW_none, errW_some] <;> rfl) | (simp [*, errW_none, errW_some] <;> rfl), gw_ HB⟩
   ·
    replace c7 := Bool.eq_false_iff.mpr c7
    subst c7
    have H1 : ((score_Floor.f a0).bind fun bt151 => ((colloquyref13_Floor.f kj4 a0).bind fun bt153 => ((score_Sort.f l2).bind fun t155 => ((colloquyref13_Sort.f kj4 l2).bind fun t158 => ((colloquyref13_Same.f kj4 t155 t158).bind fun t161 => (if t161 = true then (if bt151.1 = bt153.1 then (if (bt151.2 == bt153.2) = true then ((score_Cmp.f a0 a1).bind fun t162 => ((colloquyref13_Cmp.f a0 a1).bind fun t163 => (some (t162 == t163)))) else (some false)) else (some false)) else (some false))))))) = some r := by rw [if_neg (show ¬ (false = true) by decide)] at H; exact H
    clear H
    have H := H1
    clear H1
    replace H := Option.bind_eq_some_iff.mp H
    obtain ⟨⟨t151, t152⟩, A80, H⟩ := H
    replace H : ((colloquyref13_Floor.f kj4 a0).bind fun bt153 => ((score_Sort.f l2).bind fun t155 => ((colloquyref13_Sort.f kj4 l2).bind fun t158 => ((colloquyref13_Same.f kj4 t155 t158).bind fun t161 => (if t161 = true then (if t151 = bt153.1 then (if (t152 == bt153.2) = true then ((score_Cmp.f a0 a1).bind fun t162 => ((colloquyref13_Cmp.f a0 a1).bind fun t163 => (some (t162 == t163)))) else (some false)) else (some false)) else (some false)))))) = some r := H
    have A8 := Aside0.mk A80
    clear A80
    replace H := Option.bind_eq_some_iff.mp H
    obtain ⟨⟨t153, t154⟩, A90, H⟩ := H
    replace H : ((score_Sort.f l2).bind fun t155 => ((colloquyref13_Sort.f kj4 l2).bind fun t158 => ((colloquyref13_Same.f kj4 t155 t158).bind fun t161 => (if t161 = true then (if t151 = t153 then (if (t152 == t154) = true then ((score_Cmp.f a0 a1).bind fun t162 => ((colloquyref13_Cmp.f a0 a1).bind fun t163 => (some (t162 == t163)))) else (some false)) else (some false)) else (some false))))) = some r := H
    have A9 := Aside0.mk A90
    clear A90
    replace H := Option.bind_eq_some_iff.mp H
    obtain ⟨t155, A100, H⟩ := H
    replace H : ((colloquyref13_Sort.f kj4 l2).bind fun t158 => ((colloquyref13_Same.f kj4 t155 t158).bind fun t161 => (if t161 = true then (if t151 = t153 then (if (t152 == t154) = true then ((score_Cmp.f a0 a1).bind fun t162 => ((colloquyref13_Cmp.f a0 a1).bind fun t163 => (some (t162 == t163)))) else (some false)) else (some false)) else (some false)))) = some r := H
    have A10 := Aside0.mk A100
    clear A100
    replace H := Option.bind_eq_some_iff.mp H
    obtain ⟨t158, A110, H⟩ := H
    replace H : ((colloquyref13_Same.f kj4 t155 t158).bind fun t161 => (if t161 = true then (if t151 = t153 then (if (t152 == t154) = true then ((score_Cmp.f a0 a1).bind fun t162 => ((colloquyref13_Cmp.f a0 a1).bind fun t163 => (some (t162 == t163)))) else (some false)) else (some false)) else (some false))) = some r := H
    have A11 := Aside0.mk A110
    clear A110
    replace H := Option.bind_eq_some_iff.mp H
    obtain ⟨t161, A120, H⟩ := H
    replace H : (if t161 = true then (if t151 = t153 then (if (t152 == t154) = true then ((score_Cmp.f a0 a1).bind fun t162 => ((colloquyref13_Cmp.f a0 a1).bind fun t163 => (some (t162 == t163)))) else (some false)) else (some false)) else (some false)) = some r := H
    have A12 := Aside0.mk A120
    clear A120
    by_cases c13 : t161 = true
    ·
     subst c13
     have H1 : (if t151 = t153 then (if (t152 == t154) = true then ((score_Cmp.f a0 a1).bind fun t162 => ((colloquyref13_Cmp.f a0 a1).bind fun t163 => (some (t162 == t163)))) else (some false)) else (some false)) = some r := by rw [if_pos rfl] at H; exact H
     clear H
     have H := H1
     clear H1
     by_cases c14 : t151 = t153
     ·
      rw [if_pos c14] at H
      have c14b0 : (t151 == t153) = true := beq_iff_eq.mpr c14
      have c14b1 : (t151 != t153) = false := bne_eq_false_iff_eq.mpr c14
      clear c14
      by_cases c15 : (t152 == t154) = true
      ·
       rw [if_pos c15] at H
       have c15b0 : (t152 == t154) = true := c15
       (try (have c15b1 : decide (t152 = t154) = true := by simpa using c15))
       (try (have c15b2 : (t152 == t154) = true := by simpa using c15))
       clear c15
       replace H := Option.bind_eq_some_iff.mp H
       obtain ⟨t162, A160, H⟩ := H
       replace H : ((colloquyref13_Cmp.f a0 a1).bind fun t163 => (some (t162 == t163))) = some r := H
       have A16 := Aside0.mk A160
       clear A160
       replace H := Option.bind_eq_some_iff.mp H
       obtain ⟨t163, A170, H⟩ := H
       replace H : (some (t162 == t163)) = some r := H
       have A17 := Aside0.mk A170
       clear A170
       obtain rfl := Option.some.inj H
       go_wp2_with (first | ((with_reducible refine gate_callee (f := 13) rfl ?_); refine goesL_ (some 24) rfl rfl Try.func13 (by kernel_rfl) rfl #[.int .u64 a0] rfl (by (try simp only [List.map_toArray, List.map_cons, List.map_nil]); first | done | rfl | (simp only [List.length_drop, List.length_take]; rfl)) ?_; (with_reducible refine (score_Floor.calls a0 t151 t152 _ A8.out).mono ?_); rintro e w' ⟨rfl, ⟨nd, rfl⟩⟩; refine ⟨_, rfl, ?_⟩) | ((with_reducible refine gate_callee (f := 14) rfl ?_); refine goesL_ (some 29) rfl rfl Try.func14 (by kernel_rfl) rfl #[.int .u64 a0] rfl (by (try simp only [List.map_toArray, List.map_cons, List.map_nil]); first | done | rfl | (simp only [List.length_drop, List.length_take]; rfl)) ?_; (with_reducible refine (colloquyref13_Floor.calls kj4 a0 t153 t154 _ A9.out).mono ?_); rintro e w' ⟨rfl, ⟨nd, rfl⟩⟩; refine ⟨_, rfl, ?_⟩) | ((with_reducible refine gate_callee (f := 16) rfl ?_); refine goesL_ (some 33) rfl rfl Try.func16 (by kernel_rfl) rfl #[.slice A2 l2.length c2] rfl (by (try simp only [List.map_toArray, List.map_cons, List.map_nil]); first | done | rfl | (simp only [List.length_drop, List.length_take]; rfl)) ?_; (with_reducible refine (score_Sort.calls _ _ l2 t155 _ ?side1 ?side2 A10.out).mono ?_); (case side1 => repeat (first | exact (Kd.C_below HR2.out (gw_ HB)) | (with_reducible refine Kd.C_alloc ?_ _) | (with_reducible refine Kd.C_drewN ?_ _) | (with_reducible refine Kd.C_drew ?_))); (case side2 => exact HC2.out); rintro e w18 ⟨v156, rfl, ho0, hb⟩; refine ⟨_, rfl, ?_⟩; have n0_ := Aside0.mk (Kd.R_lower ho0 (below_size (gw_ HB))); have n1_ := Aside0.mk (below_step (gw_ HB) hb); clear HB; have HO157 := n0_; have HB := n1_; clear n0_ n1_; (try clear hb); (try clear hb2); (try clear hk); (try clear hi); (try clear ho0)) | ((with_reducible refine gate_callee (f := 17) rfl ?_); refine goesL_ (some 35) rfl rfl Try.func17 (by kernel_rfl) rfl #[.slice A2 l2.length c2] rfl (by (try simp only [List.map_toArray, List.map_cons, List.map_nil]); first | done | rfl | (simp only [List.length_drop, List.length_take]; rfl)) ?_; (with_reducible refine (colloquyref13_Sort.calls kj4 _ _ l2 t158 _ ?side1 ?side2 A11.out).mono ?_); (case side1 => repeat (first | exact (Kd.C_below HR2.out HB.out) | (with_reducible refine Kd.C_alloc ?_ _) | (with_reducible refine Kd.C_drewN ?_ _) | (with_reducible refine Kd.C_drew ?_))); (case side2 => exact HC2.out); rintro e w19 ⟨v159, rfl, ho0, hb⟩; refine ⟨_, rfl, ?_⟩; have n0_ := Aside0.mk (Kd.R_elder' (Kd.rk HO157) (Kd.R_base ho0) hb); have n1_ := Aside0.mk (Kd.R_lower (Kd.R_new' ho0 (Kd.R_lt (Kd.rk HO157))) (below_size (gw_ HB))); have n2_ := Aside0.mk (below_step (gw_ HB) hb); clear HO157; clear HB; have HO157 := n0_; have HO160 := n1_; have HB := n2_; clear n0_ n1_ n2_; (try clear hb); (try clear hb2); (try clear hk); (try clear hi); (try clear ho0); obtain ⟨Ao20, co20, eo20⟩ := Kd.R_slice HO157.out; subst eo20; obtain ⟨Ao21, co21, eo21⟩ := Kd.R_slice HO160.out; subst eo21) | ((with_reducible refine gate_callee (f := 15) rfl ?_); refine goesL_ (some 36) rfl rfl Try.func15 (by kernel_rfl) rfl #[.slice Ao20 t155.length co20, .slice Ao21 t158.length co21] rfl (by (try simp only [List.map_toArray, List.map_cons, List.map_nil]); first | done | rfl | (simp only [List.length_drop, List.length_take]; rfl)) ?_; (with_reducible refine (colloquyref13_Same.calls kj4 _ _ t155 _ _ t158 true _ ?side1 ?side2 ?side3 ?side4 A12.out).mono ?_); (case side1 => repeat (first | exact (Kd.R_reads' HO157.out).2.2 | (with_reducible refine Kd.C_alloc ?_ _) | (with_reducible refine Kd.C_drewN ?_ _) | (with_reducible refine Kd.C_drew ?_))); (case side2 => exact (Kd.R_reads' HO157.out).2.1); (case side3 => repeat (first | exact (Kd.R_reads' HO160.out).2.2 | (with_reducible refine Kd.C_alloc ?_ _) | (with_reducible refine Kd.C_drewN ?_ _) | (with_reducible refine Kd.C_drew ?_))); (case side4 => exact (Kd.R_reads' HO160.out).2.1); rintro e w' ⟨rfl, ⟨nd, rfl⟩⟩; refine ⟨_, rfl, ?_⟩) | (go_at_call 18; (with_reducible refine (score_Cmp.calls a0 a1 t162 _ A16.out).mono ?_); rintro e w' ⟨rfl, ⟨nd, rfl⟩⟩) | (go_at_call 19; (with_reducible refine (colloquyref13_Cmp.calls a0 a1 t163 _ A17.out).mono ?_); rintro e w' ⟨rfl, ⟨nd, rfl⟩⟩))
       go_ret
       exact ⟨by first | rfl | (simp [errW_none, errW_some] <;> rfl) | (simp [*, errW_none, errW_some] <;> rfl), gw_ HB⟩
      ·
       rw [if_neg c15] at H
       have c15b0 : (t152 == t154) = false := by simpa using c15
       (try (have c15b1 : decide (t152 = t154) = false := by simpa using c15))
       (try (have c15b2 : (t152 == t154) = false := by simpa using c15))
       (try (have c15b3 : ¬ (t152 = t154) := by simpa using c15))
       clear c15
       exact absurd (Option.some.inj H) (by rw [HRT.out]; decide)
     ·
      rw [if_neg c14] at H
      have c14b0 : (t151 == t153) = false := beq_eq_false_iff_ne.mpr c14
      have c14b1 : (t151 != t153) = true := bne_iff_ne.mpr c14
      exact absurd (Option.some.inj H) (by rw [HRT.out]; decide)
    ·
     replace c13 := Bool.eq_false_iff.mpr c13
     subst c13
     have H1 : (some false) = some r := by rw [if_neg (show ¬ (false = true) by decide)] at H; exact H
     clear H
     have H := H1
     clear H1
     exact absurd (Option.some.inj H) (by rw [HRT.out]; decide)

/-- THE ONE PURE STATEMENT of colloquylaw13_ScoreOrders: yours. -/
def colloquylaw13_ScoreOrders.Pure : Prop := ∀ (a0 : Int) (a1 : Int) (l2 : List Int), (Lit.int .u64 a0).wf = true → (Lit.int .u64 a1).wf = true → l2.length ≤ maxLen → l2.length * 8 ≤ 140737488351232 → (∀ x ∈ l2, (Lit.int .u64 x).wf = true) → ∃ k, colloquylaw13_ScoreOrders.f k a0 a1 l2 = some true
theorem colloquylaw13_ScoreOrders.walk (P : colloquylaw13_ScoreOrders.Pure) (a0 : Int) (a1 : Int) (a2 : Option Addr) (len2 cap2 : Nat) (z2 : List Int) (w : World) (w0 : (Lit.int .u64 a0).wf = true) (w1 : (Lit.int .u64 a1).wf = true) (w2 : (a2 = none ∧ len2 = 0 ∧ cap2 = 0 ∧ z2 = []) ∨ ∃ x, a2 = some x ∧ len2 ≤ cap2 ∧ cap2 ≤ maxLen ∧ z2.length = cap2 ∧ (∀ i, i < z2.length → w.cell? (x.add i) = some (.int .u64 (z2.getD i 0))) ∧ ∀ n ∈ z2, (Lit.int .u64 n).wf = true) (y2 : len2 * 8 ≤ 140737488351232) :
  Calls Try.prog 3 #[.int .u64 a0, .int .u64 a1, .slice a2 len2 cap2] w fun e w' => e = .returned (.bool true) ∧ Below w.heap.size w w' := by
 obtain ⟨l2, rfl, hr2, hm2, hw2, hc2⟩ := ReadsInt.ofRowC w2
 obtain ⟨k, h⟩ := P a0 a1 l2 w0 w1 hm2 y2 hw2
 refine (colloquylaw13_ScoreOrders.calls k a0 a1 _ _ l2 true w (Kd.C_of_reads (d := (0 : Int)) (h1 := fun _ => rfl) hr2) hc2 rfl h).mono ?_
 rintro e w' ⟨rfl, hd⟩
 exact ⟨rfl, hd⟩

end Go.Proofs.Ytlobedghenflfaa.P
