/- Plain Lean functions and their contracts over the translation, written by a program of this session (myprint.py, over the kit's print); no condition but each contract's own. -/
import Derived.Test.YtolfjfepehmfgaaPx0
namespace Go.Proofs.Ytolfjfepehmfgaa.P
open Go.RowKit Go.Proofs.YtolfjfepehmfgaaW.PrintWords Go.Proofs.YtolfjfepehmfgaaW.PrintLast Go.Proofs.YtolfjfepehmfgaaW.PrintMore
attribute [local go_sem] max2_int min2_int max_two min_two max_three min_three max_four min_four   -- for this text's walks alone
set_option linter.unusedVariables false
set_option linter.unusedSimpArgs false

def attr_between.f (a0 : Int) (a1 : Int) : Option (Bool) := if a0 ≥ 0 then (some (decide (a0 ≤ a1))) else (some false)
set_option maxHeartbeats 8000000 in
set_option maxRecDepth 100000 in
theorem attr_between.calls (a0 : Int) (a1 : Int) (r : Bool) (w : World) (h : attr_between.f a0 a1 = some r) :
  Calls Try.prog 24 #[.int .i64 a0, .int .i64 a1] w fun e w' => e = .returned (.bool r) ∧ Drawn0 w w' := by
 have H : (if a0 ≥ 0 then (some (decide (a0 ≤ a1))) else (some false)) = some r := h
 clear h
 by_cases c3 : a0 ≥ 0
 ·
  rw [if_pos c3] at H
  have c3b0 : decide (0 ≤ a0) = true := decide_eq_true c3
  clear c3
  obtain rfl := Option.some.inj H
  go_enter Try.func24, Try.ntmps24
  go_wp2
  go_ret
  exact ⟨by first | rfl | (simp; done) | (simp [*]; done), by repeat (first | exact Drawn0.refl _ | apply Drawn0.step)⟩
 ·
  rw [if_neg c3] at H
  have c3b0 : decide (0 ≤ a0) = false := decide_eq_false c3
  clear c3
  obtain rfl := Option.some.inj H
  go_enter Try.func24, Try.ntmps24
  go_wp2
  go_ret
  exact ⟨by first | rfl | (simp; done) | (simp [*]; done), by repeat (first | exact Drawn0.refl _ | apply Drawn0.step)⟩

def attr_May.l0 : Nat → Int → List Int → Int → Int → Int → List Int → Option (Bool)
 | 0, _, _, _, _, _, _ => none
 | k + 1, x1, x8, x9, x10, x204000, x204001 => if x10 < x9 then (if 0 ≤ x10 then (if x10 < (x8.length : Int) then ((attr_between.f (rd x8 x10) 1048576).bind fun t205 => (if t205 = true then (attr_May.l0 k x1 x8 x9 (wrap64 (x10 + 1)) x204000 x204001) else (some false))) else (none)) else (none)) else (if x1 ≥ 1 then (if x1 ≤ 7 then (if (x204001.length : Int) = x1 then ((attr_between.f x204000 1073741824).bind fun t206 => (some t206)) else (some false)) else (some false)) else (some false))
def attr_May.f (k : Nat) (a0_0 : Int) (l0_1 : List Int) (a1 : Int) : Option (Bool) := attr_May.l0 k a1 l0_1 (l0_1.length : Int) 0 a0_0 l0_1
set_option maxHeartbeats 8000000 in
set_option maxRecDepth 100000 in
theorem attr_May.calls (k : Nat) (a0_0 : Int) (A0_1 : Option Addr) (c0_1 : Nat) (l0_1 : List Int) (a1 : Int) (r : Bool) (w : World) (hr0_1 : Kd.C (Kd.int .i64) w A0_1 l0_1.length l0_1) (hc0_1 : l0_1.length ≤ c0_1) (h : attr_May.f k a0_0 l0_1 a1 = some r) :
  Calls Try.prog 17 #[.agg #[.int .i64 a0_0, .slice A0_1 l0_1.length c0_1], .int .i64 a1] w fun e w' => e = .returned (.bool r) ∧ Below w.heap.size w w' := by
 have hu27 := Try.underlying27
 have HR0_1 := Aside0.mk hr0_1
 have HC0_1 := Aside0.mk hc0_1
 clear hr0_1 hc0_1
 have HB := Aside0.mk (Below.refl w.heap.size w)
 have H : (attr_May.l0 k a1 l0_1 (l0_1.length : Int) 0 a0_0 l0_1) = some r := h
 clear h
 have H' := Aside0.mk H
 clear H
 go_enter Try.func17, Try.ntmps17
 go_wp2_with (first | ((with_reducible refine gate_dst (N := 2) rfl ?_); (try (refine gate_guard (by rfl) ?_; dsimp only)); refine box_event ?hg (N := 2) ?hd (cs := #[.int .i64 a0_0, .slice A0_1 l0_1.length c0_1]) (t := 27) ?hr ?_; (case hd => rfl); (case hg => rfl); (case hr => first | (go_simp; done) | (go_simp; rfl)); intro gb203 hg w3 hbox hb; have s_ := step_size_ (gw_ HB) hb hg; have n0_ := Aside0.mk s_.1; have n1_ := Aside0.mk (hbox); have n2_ := Aside0.mk s_.2; clear s_; have n3_ := n2_; clear HB; have HB := n0_; have BK203 := n1_; have GW203 := n2_; have GE203 := n3_; clear n0_ n1_ n2_ n3_; clear hb hbox hg; obtain ⟨hcz4_0, hcz4_1⟩ := blk_cells2 BK203.out; have hfz4_0 := blk_frozen BK203.out 0; have hfz4_1 := blk_frozen BK203.out 1))
 go_loopg [10] k (fun kq v10 w' => ∃ (x10_1 : Int), v10 = .int .i64 x10_1 ∧ Aside0 (attr_May.l0 kq a1 l0_1 (l0_1.length : Int) x10_1 a0_0 l0_1 = some r) ∧ Aside0 (kq ≤ k) ∧ Aside0 (w'.heap[gb203]? = some (.cells #[.int .i64 a0_0, (.slice A0_1 l0_1.length c0_1)] 27 (0, 0))) ∧ Aside0 (Below w.heap.size w w'))
 case atStart => exact ⟨(0), (by first | rfl | (simp; done) | (simp [*]; done)), H', ⟨Nat.le_refl _⟩, ⟨by (with_reducible repeat (first | refine blk_drewN ?_ _ | refine blk_drew ?_ | refine blk_alloc ?_ _)); exact BK203.out⟩, ⟨gw_ HB⟩⟩
 case round =>
  clear H'
  try clear c1
  try clear p2
  try clear hcz4_0
  try clear hcz4_1
  try clear hfz4_0
  try clear hfz4_1
  obtain ⟨x10_1, rfl, HA, HK1, BK203, HB⟩ := hrel
  cases gk with
  | zero => exact absurd HA.out (by simp [attr_May.l0])
  | succ k1 =>
   have H := HA.out
   clear HA
   simp only [attr_May.l0] at H
   by_cases c5 : x10_1 < (l0_1.length : Int)
   ·
    rw [if_pos c5] at H
    have c5b0 : decide (x10_1 < (l0_1.length : Int)) = true := decide_eq_true c5
    clear c5
    by_cases c6 : 0 ≤ x10_1
    ·
     rw [if_pos c6] at H
     have c6b0 : decide (0 ≤ x10_1) = true := decide_eq_true c6
     clear c6
     by_cases c7 : x10_1 < (l0_1.length : Int)
     ·
      rw [if_pos c7] at H
      have c7b0 : decide (x10_1 < (l0_1.length : Int)) = true := decide_eq_true c7
      clear c7
      replace H := Option.bind_eq_some_iff.mp H
      obtain ⟨t205, A80, H⟩ := H
      replace H : (if t205 = true then (attr_May.l0 k1 a1 l0_1 (l0_1.length : Int) (wrap64 (x10_1 + 1)) a0_0 l0_1) else (some false)) = some r := H
      have A8 := Aside0.mk A80
      clear A80
      by_cases c9 : t205 = true
      ·
       subst c9
       have H1 : (attr_May.l0 k1 a1 l0_1 (l0_1.length : Int) (wrap64 (x10_1 + 1)) a0_0 l0_1) = some r := by rw [if_pos rfl] at H; exact H
       clear H
       have H := H1
       clear H1
       have H' := Aside0.mk H
       clear H
       have p204 : 0 ≤ (x10_1 : Int) := of_decide_eq_true (by first | (with_reducible assumption) | assumption)
       have q204 : x10_1 < (l0_1.length : Int) := of_decide_eq_true (by first | (with_reducible assumption) | assumption)
       obtain ⟨ad204, e204, hx204_0⟩ := Kd.at_int HR0_1.out x10_1 p204 q204
       cases e204
       replace hx204_0 := (HB.out.cell (World.block_lt_of_cell? w _ hx204_0)).trans hx204_0
       replace p204 := eq_true p204
       replace q204 := eq_true q204
       go_wp2_with (first | ((with_reducible refine gate_callee (f := 24) rfl ?_); refine goesL_ (some 15) rfl rfl Try.func24 (by kernel_rfl) rfl #[.int .i64 (rd l0_1 x10_1), .int .i64 1048576] rfl (by (try simp only [List.map_toArray, List.map_cons, List.map_nil]); first | done | rfl | (simp only [List.length_drop, List.length_take]; rfl)) ?_; (with_reducible refine (attr_between.calls (rd l0_1 x10_1) 1048576 true _ A8.out).mono ?_); rintro e w' ⟨rfl, ⟨nd, rfl⟩⟩; refine ⟨_, rfl, ?_⟩))
       go_roundg k1
       case measure => have := HK1.out; omega
       case rel => exact ⟨(wrap64 (x10_1 + 1)), (by first | rfl | (simp; done) | (simp [*]; done)), H', ⟨by have := HK1.out; omega⟩, ⟨by (with_reducible repeat (first | refine blk_drewN ?_ _ | refine blk_drew ?_ | refine blk_alloc ?_ _)); exact BK203.out⟩, ⟨gw_ HB⟩⟩
      ·
       replace c9 := Bool.eq_false_iff.mpr c9
       subst c9
       have H1 : (some false) = some r := by rw [if_neg (show ¬ (false = true) by decide)] at H; exact H
       clear H
       have H := H1
       clear H1
       obtain rfl := Option.some.inj H
       have p204 : 0 ≤ (x10_1 : Int) := of_decide_eq_true (by first | (with_reducible assumption) | assumption)
       have q204 : x10_1 < (l0_1.length : Int) := of_decide_eq_true (by first | (with_reducible assumption) | assumption)
       obtain ⟨ad204, e204, hx204_0⟩ := Kd.at_int HR0_1.out x10_1 p204 q204
       cases e204
       replace hx204_0 := (HB.out.cell (World.block_lt_of_cell? w _ hx204_0)).trans hx204_0
       replace p204 := eq_true p204
       replace q204 := eq_true q204
       go_wp2_with (first | ((with_reducible refine gate_callee (f := 24) rfl ?_); refine goesL_ (some 15) rfl rfl Try.func24 (by kernel_rfl) rfl #[.int .i64 (rd l0_1 x10_1), .int .i64 1048576] rfl (by (try simp only [List.map_toArray, List.map_cons, List.map_nil]); first | done | rfl | (simp only [List.length_drop, List.length_take]; rfl)) ?_; (with_reducible refine (attr_between.calls (rd l0_1 x10_1) 1048576 false _ A8.out).mono ?_); rintro e w' ⟨rfl, ⟨nd, rfl⟩⟩; refine ⟨_, rfl, ?_⟩))
       go_ret
       exact ⟨by first | rfl | (simp [errW_none, errW_some] <;> rfl) | (simp [*, errW_none, errW_some] <;> rfl), gw_ HB⟩
     ·
      rw [if_neg c7] at H
      exact absurd H (by simp)
    ·
     rw [if_neg c6] at H
     exact absurd H (by simp)
   ·
    rw [if_neg c5] at H
    have c5b0 : decide (x10_1 < (l0_1.length : Int)) = false := decide_eq_false c5
    clear c5
    by_cases c10 : a1 ≥ 1
    ·
     rw [if_pos c10] at H
     have c10b0 : decide (1 ≤ a1) = true := decide_eq_true c10
     clear c10
     by_cases c11 : a1 ≤ 7
     ·
      rw [if_pos c11] at H
      have c11b0 : decide (a1 ≤ 7) = true := decide_eq_true c11
      clear c11
      by_cases c12 : (l0_1.length : Int) = a1
      ·
       rw [if_pos c12] at H
       have c12b0 : ((l0_1.length : Int) == a1) = true := beq_iff_eq.mpr c12
       have c12b1 : ((l0_1.length : Int) != a1) = false := bne_eq_false_iff_eq.mpr c12
       clear c12
       replace H := Option.bind_eq_some_iff.mp H
       obtain ⟨t206, A130, H⟩ := H
       replace H : (some t206) = some r := H
       have A13 := Aside0.mk A130
       clear A130
       obtain rfl := Option.some.inj H
       obtain ⟨hcz14_0, hcz14_1⟩ := blk_cells2 BK203.out
       obtain ⟨hfz14_0, hfz14_1⟩ := blk_frozens2 BK203.out
       go_wp2_with (first | (go_at_call 24; (with_reducible refine (attr_between.calls a0_0 1073741824 t206 _ A13.out).mono ?_); rintro e w' ⟨rfl, ⟨nd, rfl⟩⟩))
       go_ret
       exact ⟨by first | rfl | (simp [errW_none, errW_some] <;> rfl) | (simp [*, errW_none, errW_some] <;> rfl), gw_ HB⟩
      ·
       rw [if_neg c12] at H
       have c12b0 : ((l0_1.length : Int) == a1) = false := beq_eq_false_iff_ne.mpr c12
       have c12b1 : ((l0_1.length : Int) != a1) = true := bne_iff_ne.mpr c12
       obtain rfl := Option.some.inj H
       obtain ⟨hcz15_0, hcz15_1⟩ := blk_cells2 BK203.out
       obtain ⟨hfz15_0, hfz15_1⟩ := blk_frozens2 BK203.out
       go_wp2
       go_ret
       exact ⟨by first | rfl | (simp [errW_none, errW_some] <;> rfl) | (simp [*, errW_none, errW_some] <;> rfl), gw_ HB⟩
     ·
      rw [if_neg c11] at H
      have c11b0 : decide (a1 ≤ 7) = false := decide_eq_false c11
      clear c11
      obtain rfl := Option.some.inj H
      go_wp2
      go_ret
      exact ⟨by first | rfl | (simp [errW_none, errW_some] <;> rfl) | (simp [*, errW_none, errW_some] <;> rfl), gw_ HB⟩
    ·
     rw [if_neg c10] at H
     have c10b0 : decide (1 ≤ a1) = false := decide_eq_false c10
     clear c10
     obtain rfl := Option.some.inj H
     go_wp2
     go_ret
     exact ⟨by first | rfl | (simp [errW_none, errW_some] <;> rfl) | (simp [*, errW_none, errW_some] <;> rfl), gw_ HB⟩

mutual
def colloquyref06_May.j0 : Nat → Int → Bool → Int → List Int → Option (Bool)
 | 0, _, _, _, _ => none
 | k + 1, x1, x28, x208000, x208001 => if x28 = true then (some false) else (colloquyref06_May.l0 k x1 0 x208000 x208001)
def colloquyref06_May.l0 : Nat → Int → Int → Int → List Int → Option (Bool)
 | 0, _, _, _, _ => none
 | k + 1, x1, x5, x208000, x208001 => if x5 < x1 then (if 0 ≤ x5 then (if x5 < (x208001.length : Int) then (if (rd x208001 x5) < 0 then (some false) else (if (rd x208001 x5) > 1048576 then (some false) else (colloquyref06_May.l0 k x1 (wrap64 (x5 + 1)) x208000 x208001))) else (none)) else (none)) else (some true)
end
def colloquyref06_May.f (k : Nat) (a0_0 : Int) (l0_1 : List Int) (a1 : Int) : Option (Bool) := if a1 < 1 then (colloquyref06_May.j0 k a1 true a0_0 l0_1) else (if a1 > 7 then (colloquyref06_May.j0 k a1 true a0_0 l0_1) else (if (l0_1.length : Int) = a1 then (if a0_0 < 0 then (colloquyref06_May.j0 k a1 true a0_0 l0_1) else (colloquyref06_May.j0 k a1 (decide (a0_0 > 1073741824)) a0_0 l0_1)) else (colloquyref06_May.j0 k a1 true a0_0 l0_1)))
end Go.Proofs.Ytolfjfepehmfgaa.P
