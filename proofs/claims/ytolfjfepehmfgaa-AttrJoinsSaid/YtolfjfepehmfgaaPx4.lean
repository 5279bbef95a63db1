/- Plain Lean functions and their contracts over the translation, written by a program of this session (myprint.py, over the kit's print); no condition but each contract's own. -/
import Derived.Test.YtolfjfepehmfgaaPx0
import Derived.Test.YtolfjfepehmfgaaPx1
import Derived.Test.YtolfjfepehmfgaaPx3
namespace Go.Proofs.Ytolfjfepehmfgaa.P
open Go.RowKit Go.Proofs.YtolfjfepehmfgaaW.PrintWords Go.Proofs.YtolfjfepehmfgaaW.PrintLast Go.Proofs.YtolfjfepehmfgaaW.PrintMore
attribute [local go_sem] max2_int min2_int max_two min_two max_three min_three max_four min_four   -- for this text's walks alone
set_option linter.unusedVariables false
set_option linter.unusedSimpArgs false

def colloquyref06_All.l0 : Nat → List (S27) → Int → Int → List Int → Option (Int × List Int)
 | 0, _, _, _, _ => none
 | k + 1, x0, x4, x152000, x152001 => if x4 < (x0.length : Int) then (if 0 ≤ x4 then ((colloquyref06_Merge.f k x152000 x152001 ((rd_T27 x0 x4).f0) ((rd_T27 x0 x4).f1)).bind fun bt153 => (colloquyref06_All.l0 k x0 (wrap64 (x4 + 1)) bt153.1 bt153.2)) else (none)) else (some (x152000, x152001))
def colloquyref06_All.f (k : Nat) (l0 : List (S27)) : Option (Int × List Int) := colloquyref06_All.l0 k l0 0 0 ([] : List Int)
-- making: yes
def attr_Within.f (a0_0 : Int) (l0_1 : List Int) (a1_0 : Int) (l1_1 : List Int) : Option Bool := some ((List.range (max l0_1.length l1_1.length)).all (fun i => decide (l0_1.getD i 0 ≤ l1_1.getD i 0)) && decide (a0_0 ≤ a1_0))
theorem within_no (a0_0 : Int) (l0_1 : List Int) (a1_0 : Int) (l1_1 : List Int) (r : Bool) (h : attr_Within.f a0_0 l0_1 a1_0 l1_1 = some r) (i : Nat) (hi : i < max l0_1.length l1_1.length) (hgt : l1_1.getD i 0 < l0_1.getD i 0) : r = false := by
  unfold attr_Within.f at h
  injection h with h
  rw [← h, Bool.and_eq_false_iff]
  left
  rw [List.all_eq_false]
  exact ⟨i, List.mem_range.2 hi, by simpa using hgt⟩
theorem within_yes (a0_0 : Int) (l0_1 : List Int) (a1_0 : Int) (l1_1 : List Int) (r : Bool) (h : attr_Within.f a0_0 l0_1 a1_0 l1_1 = some r) (hA : ∀ i, i < max l0_1.length l1_1.length → l0_1.getD i 0 ≤ l1_1.getD i 0) : r = decide (a0_0 ≤ a1_0) := by
  unfold attr_Within.f at h
  injection h with h
  rw [← h, List.all_eq_true.2 (fun i hi => by simpa using hA i (List.mem_range.1 hi)), Bool.true_and]
theorem dep_of (l : List Int) (hl : l.length ≤ 9223372036854775807) (i : Nat) (hi : i < 9223372036854775807) : attr_deps_of.f l ((i : Int) + 1) = some (l.getD i 0) := by
  have hw : wrap64 ((i : Int) + 1 - 1) = (i : Int) := by unfold wrap64; omega
  unfold attr_deps_of.f
  rw [if_neg (by omega), hw]
  by_cases h : i < l.length
  · rw [if_neg (by omega), if_pos (by omega), if_pos (by omega)]; simp [rd]
  · rw [if_pos (by omega), List.getD_eq_getElem?_getD, List.getElem?_eq_none (by omega)]; rfl
set_option maxHeartbeats 8000000 in
set_option maxRecDepth 100000 in
theorem attr_Within.calls (a0_0 : Int) (A0_1 : Option Addr) (c0_1 : Nat) (l0_1 : List Int) (a1_0 : Int) (A1_1 : Option Addr) (c1_1 : Nat) (l1_1 : List Int) (r : Bool) (w : World) (hr0_1 : Kd.C (Kd.int .i64) w A0_1 l0_1.length l0_1) (hc0_1 : l0_1.length ≤ c0_1) (hr1_1 : Kd.C (Kd.int .i64) w A1_1 l1_1.length l1_1) (hc1_1 : l1_1.length ≤ c1_1) (h : attr_Within.f a0_0 l0_1 a1_0 l1_1 = some r) :
    Calls Try.prog 15 #[.agg #[.int .i64 a0_0, .slice A0_1 l0_1.length c0_1], .agg #[.int .i64 a1_0, .slice A1_1 l1_1.length c1_1]] w fun e w' => e = .returned (.bool r) ∧ Below w.heap.size w w' := by
  have hu := Try.underlying27
  have HR0 := Aside0.mk hr0_1
  have HR1 := Aside0.mk hr1_1
  have hlen0 : l0_1.length ≤ 9223372036854775807 := hr0_1.2.1
  have hlen1 : l1_1.length ≤ 9223372036854775807 := hr1_1.2.1
  clear hr0_1 hr1_1
  by_cases hmx : l0_1.length < l1_1.length
  all_goals
    go_enter Try.func15, Try.ntmps15
    go_wp2_with fail
    go_quiet (fail)
    go_wp2_with fail
    go_loopw [7, 21] (fun v7 v21 w' => ∃ i : Nat, i ≤ max l0_1.length l1_1.length ∧ v21 = .int .i64 i ∧ w'.cell? ⟨w.heap.size, 0, none⟩ = some (.int .i64 a0_0) ∧ w'.cell? ⟨w.heap.size + 1, 0, none⟩ = some (.int .i64 a1_0) ∧ Aside0 (∀ j, j < i → l0_1.getD j 0 ≤ l1_1.getD j 0) ∧ Aside0 (Below w.heap.size w w')) (fun _ v21 _ => max l0_1.length l1_1.length - (intOf v21).toNat)
    case atStart => exact ⟨0, by omega, rfl, by go_simp, by go_simp, ⟨fun j hj => absurd hj (by omega)⟩, ⟨pw_below_drewN (below_alloc (below_alloc (Below.refl _ _) _) _) _⟩⟩
    case round =>
      obtain ⟨i, hi, rfl, hc0, hc1, HA, HB⟩ := hrel
      by_cases hlt : i < max l0_1.length l1_1.length
      · obtain ⟨x, HX, HD0⟩ : ∃ x, Aside0 (l0_1.getD i 0 = x) ∧ Aside0 (attr_deps_of.f l0_1 ((i : Int) + 1) = some x) := ⟨_, ⟨rfl⟩, ⟨dep_of l0_1 hlen0 i (by omega)⟩⟩
        obtain ⟨y, HY, HD1⟩ : ∃ y, Aside0 (l1_1.getD i 0 = y) ∧ Aside0 (attr_deps_of.f l1_1 ((i : Int) + 1) = some y) := ⟨_, ⟨rfl⟩, ⟨dep_of l1_1 hlen1 i (by omega)⟩⟩
        go_wp2_with fail
        refine (attr_deps_of.calls A0_1 c0_1 l0_1 _ _ _ (Kd.C_below HR0.out HB.out) hc0_1 HD0.out).mono ?_
        rintro e w1 ⟨rfl, ⟨n1, rfl⟩⟩
        go_wp2_with fail
        refine (attr_deps_of.calls A1_1 c1_1 l1_1 _ _ _ (Kd.C_below (Kd.C_below HR1.out HB.out) (pw_below_drewN (Below.refl _ _) _)) hc1_1 HD1.out).mono ?_
        rintro e w1 ⟨rfl, ⟨n2, rfl⟩⟩
        go_wp2_with fail
        · have hgt : y < x := by assumption
          go_ret
          exact ⟨by rw [within_no a0_0 l0_1 a1_0 l1_1 r h i hlt (by rw [HX.out, HY.out]; exact hgt)]; rfl, pw_below_drewN HB.out _⟩
        · have hle : ¬ y < x := by omega
          go_roundw
          case rel => exact ⟨i + 1, by omega, by go_num, by go_simp, by go_simp, ⟨fun j hj => by rcases Nat.lt_or_ge j i with h1 | h1; exact HA.out j h1; rw [show j = i by omega, HX.out, HY.out]; omega⟩, ⟨pw_below_drewN HB.out _⟩⟩
          case measure => simp [intOf]; omega
      · go_wp2_with fail
        go_ret
        exact ⟨by rw [within_yes a0_0 l0_1 a1_0 l1_1 r h (fun j hj => HA.out j (by omega))]; rfl, HB.out⟩

end Go.Proofs.Ytolfjfepehmfgaa.P
