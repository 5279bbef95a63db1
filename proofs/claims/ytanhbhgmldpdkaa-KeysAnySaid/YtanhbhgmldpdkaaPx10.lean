/- Plain Lean functions and their contracts over the translation, written by a program of this session (myprint.py, over the kit's print); no condition but each contract's own. -/
import Derived.Test.YtanhbhgmldpdkaaPx0
import Derived.Test.YtanhbhgmldpdkaaPx3
import Derived.Test.YtanhbhgmldpdkaaPx4
import Derived.Test.YtanhbhgmldpdkaaPx8
namespace Go.Proofs.Ytanhbhgmldpdkaa.P
open Go.RowKit Go.Proofs.YtanhbhgmldpdkaaW.PrintWords Go.Proofs.YtanhbhgmldpdkaaW.PrintLast Go.Proofs.YtanhbhgmldpdkaaW.PrintMore
attribute [local go_sem] max2_int min2_int max_two min_two max_three min_three max_four min_four   -- for this text's walks alone
set_option linter.unusedVariables false
set_option linter.unusedSimpArgs false

/-! ### colloquylaw05_KeysAny: function 8 -/
abbrev colloquylaw05_KeysAny.m0 : Array Bool := #[false, false, false, false, false, false, false, false, false, false]
abbrev colloquylaw05_KeysAny.m1 : Array Bool := #[true, false, false, false, false, false, false, false, false, false]
abbrev colloquylaw05_KeysAny.m2 : Array Bool := #[true, true, false, false, false, false, false, false, false, false]
abbrev colloquylaw05_KeysAny.m3 : Array Bool := #[true, true, false, true, false, false, false, false, false, false]
abbrev colloquylaw05_KeysAny.m4 : Array Bool := #[true, true, true, false, false, false, false, false, false, false]
abbrev colloquylaw05_KeysAny.m5 : Array Bool := #[true, true, false, true, true, false, false, false, false, false]
abbrev colloquylaw05_KeysAny.m6 : Array Bool := #[true, true, true, true, false, false, false, false, false, false]
abbrev colloquylaw05_KeysAny.m7 : Array Bool := #[true, true, false, true, true, true, false, false, false, false]
abbrev colloquylaw05_KeysAny.m8 : Array Bool := #[true, true, true, true, true, false, false, false, false, false]
abbrev colloquylaw05_KeysAny.m9 : Array Bool := #[true, true, true, true, true, true, false, false, false, false]
abbrev colloquylaw05_KeysAny.m10 : Array Bool := #[true, true, true, true, true, true, true, false, false, false]
abbrev colloquylaw05_KeysAny.m11 : Array Bool := #[true, true, true, true, true, true, true, true, false, false]
abbrev colloquylaw05_KeysAny.m12 : Array Bool := #[true, true, true, true, true, true, true, true, true, false]
abbrev colloquylaw05_KeysAny.m13 : Array Bool := #[true, true, true, true, true, true, true, true, true, true]
mutual
def colloquylaw05_KeysAny.j0 : Nat → List (S23) → Bool → Bool → Int → Int → Int → Int → Int → ByteArray → Int → Int → Int → Int → Int → ByteArray → Option (Bool)
  | 0, _, _, _, _, _, _, _, _, _, _, _, _, _, _, _ => none
  | k + 1, x1, x7, x18, x200000, x200001, x200002, x200003, x200004, x200005, x201000, x201001, x201002, x201003, x201004, x201005 => if x18 = true then (some x7) else (colloquylaw05_KeysAny.l0 k x1 false 0 x200000 x200001 x200002 x200003 x200004 x200005 x201000 x201001 x201002 x201003 x201004 x201005)
def colloquylaw05_KeysAny.l0 : Nat → List (S23) → Bool → Int → Int → Int → Int → Int → Int → ByteArray → Int → Int → Int → Int → Int → ByteArray → Option (Bool)
  | 0, _, _, _, _, _, _, _, _, _, _, _, _, _, _, _ => none
  | k + 1, x1, x8, x9, x200000, x200001, x200002, x200003, x200004, x200005, x201000, x201001, x201002, x201003, x201004, x201005 => if x9 < (x1.length : Int) then (if x8 = true then (colloquylaw05_KeysAny.l0 k x1 true (wrap64 (x9 + 1)) x200000 x200001 x200002 x200003 x200004 x200005 x201000 x201001 x201002 x201003 x201004 x201005) else (if 0 ≤ x9 then ((keys_Interfere.f x200000 x200001 x200002 x200003 x200004 x200005 ((rd_T23 x1 x9).f0) ((rd_T23 x1 x9).f1) ((rd_T23 x1 x9).f2) ((rd_T23 x1 x9).f3) ((rd_T23 x1 x9).f4) ((rd_T23 x1 x9).f5)).bind fun t203 => (colloquylaw05_KeysAny.l0 k x1 t203 (wrap64 (x9 + 1)) x200000 x200001 x200002 x200003 x200004 x200005 x201000 x201001 x201002 x201003 x201004 x201005)) else (none))) else (if ([] : List (S23)).length + x1.length < 2513169434916 then ((some (([] : List (S23)) ++ x1 : List (S23))).bind fun y204 => ((some (([(⟨x201000, x201001, x201002, x201003, x201004, x201005⟩ : S23)] : List (S23)) : List (S23))).bind fun y207 => (if y204.length + y207.length < 2513169434916 then ((keys_Any.f x200000 x200001 x200002 x200003 x200004 x200005 x1).bind fun t213 => (if (t213 == x8) = true then ((keys_Any.f x200000 x200001 x200002 x200003 x200004 x200005 (y204 ++ y207)).bind fun t214 => (if x8 = true then (some (t214 == true)) else ((keys_Interfere.f x200000 x200001 x200002 x200003 x200004 x200005 x201000 x201001 x201002 x201003 x201004 x201005).bind fun t215 => (some (t214 == t215))))) else (some false))) else (none)))) else (none))
end
def colloquylaw05_KeysAny.f (k : Nat) (a0_0 : Int) (a0_1 : Int) (a0_2 : Int) (a0_3 : Int) (a0_4 : Int) (a0_5 : ByteArray) (l1 : List (S23)) (a2_0 : Int) (a2_1 : Int) (a2_2 : Int) (a2_3 : Int) (a2_4 : Int) (a2_5 : ByteArray) : Option (Bool) := (colloquylaw05_awake.f).bind fun t201 => (if t201 = true then (colloquylaw05_KeysAny.j0 k l1 t201 (decide ((l1.length : Int) > 100)) a0_0 a0_1 a0_2 a0_3 a0_4 a0_5 a2_0 a2_1 a2_2 a2_3 a2_4 a2_5) else (colloquylaw05_KeysAny.j0 k l1 t201 true a0_0 a0_1 a0_2 a0_3 a0_4 a0_5 a2_0 a2_1 a2_2 a2_3 a2_4 a2_5))
theorem colloquylaw05_KeysAny.mono_l : ∀ k, (∀ y0 y1 y2 y3 y4 y5 y6 y7 y8 y9 y10 y11 y12 y13 y14, LeO (colloquylaw05_KeysAny.j0 k y0 y1 y2 y3 y4 y5 y6 y7 y8 y9 y10 y11 y12 y13 y14) (colloquylaw05_KeysAny.j0 (k + 1) y0 y1 y2 y3 y4 y5 y6 y7 y8 y9 y10 y11 y12 y13 y14)) ∧ (∀ y0 y1 y2 y3 y4 y5 y6 y7 y8 y9 y10 y11 y12 y13 y14, LeO (colloquylaw05_KeysAny.l0 k y0 y1 y2 y3 y4 y5 y6 y7 y8 y9 y10 y11 y12 y13 y14) (colloquylaw05_KeysAny.l0 (k + 1) y0 y1 y2 y3 y4 y5 y6 y7 y8 y9 y10 y11 y12 y13 y14))
  | 0 => ⟨fun _ _ _ _ _ _ _ _ _ _ _ _ _ _ _ r h => by simp [colloquylaw05_KeysAny.j0] at h, fun _ _ _ _ _ _ _ _ _ _ _ _ _ _ _ r h => by simp [colloquylaw05_KeysAny.l0] at h⟩
  | k + 1 => by
    obtain ⟨ih0, ih1⟩ := colloquylaw05_KeysAny.mono_l k
    refine ⟨?_, ?_⟩
    · intro y0 y1 y2 y3 y4 y5 y6 y7 y8 y9 y10 y11 y12 y13 y14
      unfold colloquylaw05_KeysAny.j0
      repeat' first
      | (with_reducible exact ih0 _ _ _ _ _ _ _ _ _ _ _ _ _ _ _)
      | (with_reducible exact ih1 _ _ _ _ _ _ _ _ _ _ _ _ _ _ _)
      | (with_reducible exact LeO.refl _)
      | (with_reducible exact LeO.none _)
      | (with_reducible refine LeO.ite ?_ ?_)
      | (with_reducible refine LeO.bind ?_ (fun _ => ?_))
      | exact ih0 _ _ _ _ _ _ _ _ _ _ _ _ _ _ _
      | exact ih1 _ _ _ _ _ _ _ _ _ _ _ _ _ _ _
      | exact LeO.none _
      | refine LeO.ite ?_ ?_
      | refine LeO.bind ?_ (fun _ => ?_)
    · intro y0 y1 y2 y3 y4 y5 y6 y7 y8 y9 y10 y11 y12 y13 y14
      unfold colloquylaw05_KeysAny.l0
      repeat' first
      | (with_reducible exact ih0 _ _ _ _ _ _ _ _ _ _ _ _ _ _ _)
      | (with_reducible exact ih1 _ _ _ _ _ _ _ _ _ _ _ _ _ _ _)
      | (with_reducible exact LeO.refl _)
      | (with_reducible exact LeO.none _)
      | (with_reducible refine LeO.ite ?_ ?_)
      | (with_reducible refine LeO.bind ?_ (fun _ => ?_))
      | exact ih0 _ _ _ _ _ _ _ _ _ _ _ _ _ _ _
      | exact ih1 _ _ _ _ _ _ _ _ _ _ _ _ _ _ _
      | exact LeO.none _
      | refine LeO.ite ?_ ?_
      | refine LeO.bind ?_ (fun _ => ?_)
theorem colloquylaw05_KeysAny.mono : ∀ a0 a1 a2 a3 a4 a5 a6 a7 a8 a9 a10 a11 a12 k, LeO (colloquylaw05_KeysAny.f k a0 a1 a2 a3 a4 a5 a6 a7 a8 a9 a10 a11 a12) (colloquylaw05_KeysAny.f (k + 1) a0 a1 a2 a3 a4 a5 a6 a7 a8 a9 a10 a11 a12) := by
  intro a0 a1 a2 a3 a4 a5 a6 a7 a8 a9 a10 a11 a12 k
  obtain ⟨ih0, ih1⟩ := colloquylaw05_KeysAny.mono_l k
  unfold colloquylaw05_KeysAny.f
  repeat' first
      | (with_reducible exact ih0 _ _ _ _ _ _ _ _ _ _ _ _ _ _ _)
      | (with_reducible exact ih1 _ _ _ _ _ _ _ _ _ _ _ _ _ _ _)
      | (with_reducible exact LeO.refl _)
      | (with_reducible exact LeO.none _)
      | (with_reducible refine LeO.ite ?_ ?_)
      | (with_reducible refine LeO.bind ?_ (fun _ => ?_))
      | exact ih0 _ _ _ _ _ _ _ _ _ _ _ _ _ _ _
      | exact ih1 _ _ _ _ _ _ _ _ _ _ _ _ _ _ _
      | exact LeO.none _
      | refine LeO.ite ?_ ?_
      | refine LeO.bind ?_ (fun _ => ?_)
def colloquylaw05_KeysAny.T8 : Bool × List (List Nat × List Nat) := (true, [([], []), ([0], [0]), ([1], [1]), ([1], [1]), ([1], [1]), ([3, 4, 1], [1, 3, 4]), ([5, 1], [1, 5]), ([2, 6, 1, 1], [1, 2, 6]), ([1, 7], [1, 7]), ([8, 7, 0, 1, 2, 3, 4, 5, 6, 7, 8], [0, 8])])
def colloquylaw05_KeysAny.B8 : List Nat := [0, 1, 3, 3, 3, 27, 59, 127, 255, 511]
theorem colloquylaw05_KeysAny.tab8 : rtab .any (opsOf Try.f8 8) = colloquylaw05_KeysAny.T8 := by kernel_rfl
theorem colloquylaw05_KeysAny.bits8 : waitsOk colloquylaw05_KeysAny.T8.2 colloquylaw05_KeysAny.B8 = true := by kernel_rfl
set_option maxHeartbeats 8000000 in
set_option maxRecDepth 100000 in
theorem colloquylaw05_KeysAny.calls (k : Nat) (a0_0 : Int) (a0_1 : Int) (a0_2 : Int) (a0_3 : Int) (a0_4 : Int) (a0_5 : ByteArray) (A1 : Option Addr) (c1 : Nat) (l1 : List (S23)) (a2_0 : Int) (a2_1 : Int) (a2_2 : Int) (a2_3 : Int) (a2_4 : Int) (a2_5 : ByteArray) (r : Bool) (w : World) (hr1 : Kd.C k23 w A1 l1.length l1) (hc1 : l1.length ≤ c1) (hrt : r = true) (h : colloquylaw05_KeysAny.f k a0_0 a0_1 a0_2 a0_3 a0_4 a0_5 l1 a2_0 a2_1 a2_2 a2_3 a2_4 a2_5 = some r) :
    Calls Try.prog 8 #[.agg #[.int .i64 a0_0, .int .i64 a0_1, .int .i64 a0_2, .int .i64 a0_3, .int .i64 a0_4, .string a0_5], .slice A1 l1.length c1, .agg #[.int .i64 a2_0, .int .i64 a2_1, .int .i64 a2_2, .int .i64 a2_3, .int .i64 a2_4, .string a2_5]] w fun e w' => e = .returned (.bool r) ∧ Below w.heap.size w w' := by
  have hu23 := Try.underlying23
  have HRT := Aside0.mk hrt
  clear hrt
  have HR1 := Aside0.mk hr1
  have HC1 := Aside0.mk hc1
  clear hr1 hc1
  have HB := Aside0.mk (Below.refl w.heap.size w)
  have H : ((colloquylaw05_awake.f).bind fun t201 => (if t201 = true then (colloquylaw05_KeysAny.j0 k l1 t201 (decide ((l1.length : Int) > 100)) a0_0 a0_1 a0_2 a0_3 a0_4 a0_5 a2_0 a2_1 a2_2 a2_3 a2_4 a2_5) else (colloquylaw05_KeysAny.j0 k l1 t201 true a0_0 a0_1 a0_2 a0_3 a0_4 a0_5 a2_0 a2_1 a2_2 a2_3 a2_4 a2_5))) = some r := h
  clear h
  replace H := Option.bind_eq_some_iff.mp H
  obtain ⟨t201, A40, H⟩ := H
  replace H : (if t201 = true then (colloquylaw05_KeysAny.j0 k l1 t201 (decide ((l1.length : Int) > 100)) a0_0 a0_1 a0_2 a0_3 a0_4 a0_5 a2_0 a2_1 a2_2 a2_3 a2_4 a2_5) else (colloquylaw05_KeysAny.j0 k l1 t201 true a0_0 a0_1 a0_2 a0_3 a0_4 a0_5 a2_0 a2_1 a2_2 a2_3 a2_4 a2_5)) = some r := H
  have A4 := Aside0.mk A40
  clear A40
  have HC5 := Aside0.mk H
  clear H
  go_enter Try.func8, Try.ntmps8
  go_upto_region 2 with (first | ((with_reducible refine gate_dst (N := 3) rfl ?_); (try (refine gate_guard (by rfl) ?_; dsimp only)); refine box_event ?hg (N := 3) ?hd (cs := #[.int .i64 a0_0, .int .i64 a0_1, .int .i64 a0_2, .int .i64 a0_3, .int .i64 a0_4, .string a0_5]) (t := 23) ?hr ?_; (case hd => rfl); (case hg => rfl); (case hr => first | (go_simp; done) | (go_simp; rfl)); intro gb199 hg w6 hbox hb; have n0_ := Aside0.mk (below_step (by repeat (first | (with_reducible first | exact HB.out | apply below_alloc | apply pw_below_drewN | apply below_drew1) | exact HB.out)) hb); have n1_ := Aside0.mk (hbox); have n2_ := Aside0.mk ((by rw [hg]; exact (below_size (by repeat (first | (with_reducible first | exact HB.out | apply below_alloc | apply pw_below_drewN | apply below_drew1) | exact HB.out))) : w.heap.size ≤ gb199)); have n3_ := Aside0.mk ((by rw [hg]; exact (below_size (by repeat (first | (with_reducible first | exact HB.out | apply below_alloc | apply pw_below_drewN | apply below_drew1) | exact HB.out))) : w.heap.size ≤ gb199)); clear HB; have HB := n0_; have BK199 := n1_; have GW199 := n2_; have GE199 := n3_; clear n0_ n1_ n2_ n3_; clear hb hbox hg) | ((with_reducible refine gate_dst (N := 5) rfl ?_); (try (refine gate_guard (by rfl) ?_; dsimp only)); refine box_event ?hg (N := 5) ?hd (cs := #[.int .i64 a2_0, .int .i64 a2_1, .int .i64 a2_2, .int .i64 a2_3, .int .i64 a2_4, .string a2_5]) (t := 23) ?hr ?_; (case hd => rfl); (case hg => rfl); (case hr => first | (go_simp; done) | (go_simp; rfl)); intro gb200 hg w7 hbox hb; have n0_ := Aside0.mk (blk_below (g := gb199) (o := .cells #[.int .i64 a0_0, .int .i64 a0_1, .int .i64 a0_2, .int .i64 a0_3, .int .i64 a0_4, .string a0_5] 23 (0, 0)) (by (with_reducible repeat (first | refine blk_drewN ?_ _ | refine blk_drew ?_ | refine blk_alloc ?_ _)); exact BK199.out) hb); have n1_ := Aside0.mk (below_step (by repeat (first | (with_reducible first | exact HB.out | apply below_alloc | apply pw_below_drewN | apply below_drew1 | refine below_set ?_ GE199.out) | exact HB.out)) hb); have n2_ := Aside0.mk (hbox); have n3_ := Aside0.mk ((by rw [hg]; exact (below_size (by repeat (first | (with_reducible first | exact HB.out | apply below_alloc | apply pw_below_drewN | apply below_drew1 | refine below_set ?_ GE199.out) | exact HB.out))) : w.heap.size ≤ gb200)); have n4_ := Aside0.mk ((by rw [hg]; exact (below_size (by repeat (first | (with_reducible first | exact HB.out | apply below_alloc | apply pw_below_drewN | apply below_drew1 | refine below_set ?_ GE199.out) | exact HB.out))) : w.heap.size ≤ gb200)); have n5_ := Aside0.mk ((by rw [hg]; exact Nat.ne_of_lt (blk_lt (g := gb199) (o := .cells #[.int .i64 a0_0, .int .i64 a0_1, .int .i64 a0_2, .int .i64 a0_3, .int .i64 a0_4, .string a0_5] 23 (0, 0)) (by (with_reducible repeat (first | refine blk_drewN ?_ _ | refine blk_drew ?_ | refine blk_alloc ?_ _)); exact BK199.out)) : gb199 ≠ gb200)); have n6_ := Aside0.mk ((by rw [hg]; exact Nat.ne_of_gt (blk_lt (g := gb199) (o := .cells #[.int .i64 a0_0, .int .i64 a0_1, .int .i64 a0_2, .int .i64 a0_3, .int .i64 a0_4, .string a0_5] 23 (0, 0)) (by (with_reducible repeat (first | refine blk_drewN ?_ _ | refine blk_drew ?_ | refine blk_alloc ?_ _)); exact BK199.out)) : gb200 ≠ gb199)); clear BK199; clear HB; have BK199 := n0_; have HB := n1_; have BK200 := n2_; have GW200 := n3_; have GE200 := n4_; have NB199_200 := n5_; have NB200_199 := n6_; clear n0_ n1_ n2_ n3_ n4_ n5_ n6_; clear hb hbox hg) | ((with_reducible refine gate_callee (f := 9) rfl ?_); refine goesL_ (some 11) rfl rfl Try.func9 (by kernel_rfl) rfl #[] rfl (by (try simp only [List.map_toArray, List.map_cons, List.map_nil]); first | done | rfl | (simp only [List.length_drop, List.length_take]; rfl)) ?_; (with_reducible refine (colloquylaw05_awake.calls  t201 _ A4.out).mono ?_); rintro e w8 ⟨rfl, hb⟩; refine ⟨_, rfl, ?_⟩; have n0_ := Aside0.mk (blk_below (g := gb199) (o := .cells #[.int .i64 a0_0, .int .i64 a0_1, .int .i64 a0_2, .int .i64 a0_3, .int .i64 a0_4, .string a0_5] 23 (0, 0)) (by (with_reducible repeat (first | refine blk_drewN ?_ _ | refine blk_drew ?_ | refine blk_alloc ?_ _)); exact BK199.out) hb); have n1_ := Aside0.mk (blk_below (g := gb200) (o := .cells #[.int .i64 a2_0, .int .i64 a2_1, .int .i64 a2_2, .int .i64 a2_3, .int .i64 a2_4, .string a2_5] 23 (0, 0)) (by (with_reducible repeat (first | refine blk_drewN ?_ _ | refine blk_drew ?_ | refine blk_alloc ?_ _)); exact BK200.out) hb); have n2_ := Aside0.mk (below_step (by repeat (first | (with_reducible first | exact HB.out | apply below_alloc | apply pw_below_drewN | apply below_drew1 | refine below_set ?_ GE199.out | refine below_set ?_ GE200.out) | exact HB.out)) hb); clear BK199; clear BK200; clear HB; have BK199 := n0_; have BK200 := n1_; have HB := n2_; clear n0_ n1_ n2_; (try clear hb); (try clear hb2); (try clear hk); (try clear hi)))
  (try simp only [Act.put, List.setIfInBounds_toArray, List.set_cons_zero, List.set_cons_succ])
  go_cut [18] (fun v18 wc => ∃ (kq : Nat) (x18_4 : Bool), v18 = .bool x18_4 ∧ Aside0 (colloquylaw05_KeysAny.j0 kq l1 t201 x18_4 a0_0 a0_1 a0_2 a0_3 a0_4 a0_5 a2_0 a2_1 a2_2 a2_3 a2_4 a2_5 = some r) ∧ Aside0 (kq ≤ k) ∧ Aside0 (wc.heap[gb199]? = some (.cells #[.int .i64 a0_0, .int .i64 a0_1, .int .i64 a0_2, .int .i64 a0_3, .int .i64 a0_4, .string a0_5] 23 (0, 0))) ∧ Aside0 (wc.heap[gb200]? = some (.cells #[.int .i64 a2_0, .int .i64 a2_1, .int .i64 a2_2, .int .i64 a2_3, .int .i64 a2_4, .string a2_5] 23 (0, 0))) ∧ Aside0 (Below w.heap.size w wc))
  case first =>
    have H := HC5.out
    clear HC5
    by_cases c9 : t201 = true
    · subst c9
      have H1 : (colloquylaw05_KeysAny.j0 k l1 true (decide ((l1.length : Int) > 100)) a0_0 a0_1 a0_2 a0_3 a0_4 a0_5 a2_0 a2_1 a2_2 a2_3 a2_4 a2_5) = some r := by rw [if_pos rfl] at H; exact H
      clear H
      have H := H1
      clear H1
      have H' := Aside0.mk H
      clear H
      go_wp2
      go_meet
      case rel => exact ⟨_, (decide ((l1.length : Int) > 100)), (by first | rfl | (simp; done) | (simp [*]; done)), H', ⟨by first | omega | exact Nat.le_refl _⟩, ⟨by (with_reducible repeat (first | refine blk_drewN ?_ _ | refine blk_drew ?_ | refine blk_alloc ?_ _)); exact BK199.out⟩, ⟨by (with_reducible repeat (first | refine blk_drewN ?_ _ | refine blk_drew ?_ | refine blk_alloc ?_ _)); exact BK200.out⟩, ⟨by repeat (first | (with_reducible first | exact HB.out | apply below_alloc | apply pw_below_drewN | apply below_drew1 | refine below_set ?_ GE199.out | refine below_set ?_ GE200.out) | exact HB.out)⟩⟩
    · replace c9 := Bool.eq_false_iff.mpr c9
      subst c9
      have H1 : (colloquylaw05_KeysAny.j0 k l1 false true a0_0 a0_1 a0_2 a0_3 a0_4 a0_5 a2_0 a2_1 a2_2 a2_3 a2_4 a2_5) = some r := by rw [if_neg (show ¬ (false = true) by decide)] at H; exact H
      clear H
      have H := H1
      clear H1
      have H' := Aside0.mk H
      clear H
      go_wp2
      go_meet
      case rel => exact ⟨_, (true), (by first | rfl | (simp; done) | (simp [*]; done)), H', ⟨by first | omega | exact Nat.le_refl _⟩, ⟨by (with_reducible repeat (first | refine blk_drewN ?_ _ | refine blk_drew ?_ | refine blk_alloc ?_ _)); exact BK199.out⟩, ⟨by (with_reducible repeat (first | refine blk_drewN ?_ _ | refine blk_drew ?_ | refine blk_alloc ?_ _)); exact BK200.out⟩, ⟨by repeat (first | (with_reducible first | exact HB.out | apply below_alloc | apply pw_below_drewN | apply below_drew1 | refine below_set ?_ GE199.out | refine below_set ?_ GE200.out) | exact HB.out)⟩⟩
  case rest =>
    clear HC5
    try clear c1
    try clear p2
    try clear c8
    try clear c9
    obtain ⟨kq, x18_4, rfl, HA, HJ4, BK199, BK200, HB⟩ := hcut
    cases kq with
    | zero => exact absurd HA.out (by simp [colloquylaw05_KeysAny.j0])
    | succ kj4 =>
      have H := HA.out
      clear HA
      simp only [colloquylaw05_KeysAny.j0] at H
      by_cases c10 : x18_4 = true
      · subst c10
        have H1 : (some t201) = some r := by rw [if_pos rfl] at H; exact H
        clear H
        have H := H1
        clear H1
        obtain rfl := Option.some.inj H
        go_wp2
        go_ret
        exact ⟨by first | rfl | (simp [errW_none, errW_some] <;> rfl) | (simp [*, errW_none, errW_some] <;> rfl), by repeat (first | (with_reducible first | exact HB.out | apply below_alloc | apply pw_below_drewN | apply below_drew1 | refine below_set ?_ GE199.out | refine below_set ?_ GE200.out) | exact HB.out)⟩
      · replace c10 := Bool.eq_false_iff.mpr c10
        subst c10
        have H1 : (colloquylaw05_KeysAny.l0 kj4 l1 false 0 a0_0 a0_1 a0_2 a0_3 a0_4 a0_5 a2_0 a2_1 a2_2 a2_3 a2_4 a2_5) = some r := by rw [if_neg (show ¬ (false = true) by decide)] at H; exact H
        clear H
        have H := H1
        clear H1
        have H' := Aside0.mk H
        clear H
        go_wp2
        go_loopg [8, 9] kj4 (fun kq v8 v9 w' => ∃ (x8_2 : Bool) (x9_2 : Int), v8 = .bool x8_2 ∧ v9 = .int .i64 x9_2 ∧ Aside0 (colloquylaw05_KeysAny.l0 kq l1 x8_2 x9_2 a0_0 a0_1 a0_2 a0_3 a0_4 a0_5 a2_0 a2_1 a2_2 a2_3 a2_4 a2_5 = some r) ∧ Aside0 (kq ≤ kj4) ∧ Aside0 (w'.heap[gb199]? = some (.cells #[.int .i64 a0_0, .int .i64 a0_1, .int .i64 a0_2, .int .i64 a0_3, .int .i64 a0_4, .string a0_5] 23 (0, 0))) ∧ Aside0 (w'.heap[gb200]? = some (.cells #[.int .i64 a2_0, .int .i64 a2_1, .int .i64 a2_2, .int .i64 a2_3, .int .i64 a2_4, .string a2_5] 23 (0, 0))) ∧ Aside0 (Below w.heap.size w w'))
        case atStart => exact ⟨(false), (0), (by first | rfl | (simp; done) | (simp [*]; done)), (by first | rfl | (simp; done) | (simp [*]; done)), H', ⟨Nat.le_refl _⟩, ⟨by (with_reducible repeat (first | refine blk_drewN ?_ _ | refine blk_drew ?_ | refine blk_alloc ?_ _)); exact BK199.out⟩, ⟨by (with_reducible repeat (first | refine blk_drewN ?_ _ | refine blk_drew ?_ | refine blk_alloc ?_ _)); exact BK200.out⟩, ⟨by repeat (first | (with_reducible first | exact HB.out | apply below_alloc | apply pw_below_drewN | apply below_drew1 | refine below_set ?_ GE199.out | refine below_set ?_ GE200.out) | exact HB.out)⟩⟩
        case round =>
          clear H'
          try clear c1
          try clear p2
          try clear c8
          try clear c9
          try clear c10
          try clear p2
          obtain ⟨x8_2, x9_2, rfl, rfl, HA, HK2, BK199, BK200, HB⟩ := hrel
          cases gk with
          | zero => exact absurd HA.out (by simp [colloquylaw05_KeysAny.l0])
          | succ k2 =>
            have H := HA.out
            clear HA
            simp only [colloquylaw05_KeysAny.l0] at H
            by_cases c11 : x9_2 < (l1.length : Int)
            · rw [if_pos c11] at H
              have c11b0 : decide (x9_2 < (l1.length : Int)) = true := decide_eq_true c11
              clear c11
              by_cases c12 : x8_2 = true
              · subst c12
                have H1 : (colloquylaw05_KeysAny.l0 k2 l1 true (wrap64 (x9_2 + 1)) a0_0 a0_1 a0_2 a0_3 a0_4 a0_5 a2_0 a2_1 a2_2 a2_3 a2_4 a2_5) = some r := by rw [if_pos rfl] at H; exact H
                clear H
                have H := H1
                clear H1
                have H' := Aside0.mk H
                clear H
                try go_wp2
                have n0_ := Aside0.mk (blk_drew BK199.out)
                have n1_ := Aside0.mk (blk_drew BK200.out)
                have n2_ := Aside0.mk (below_drew1 HB.out)
                clear BK199
                clear BK200
                clear HB
                have BK199 := n0_
                have BK200 := n1_
                have HB := n2_
                clear n0_ n1_ n2_
                refine start_ (n := 10) (S := fun w' => True) (ds := []) colloquylaw05_KeysAny.m0 (by kernel_rfl) rfl rfl trivial (fun hHeld => ?_); refine with_tabW colloquylaw05_KeysAny.tab8 colloquylaw05_KeysAny.bits8 (fun HT_ HW_ => ?_)
                generalize wr.drew = w13 at BK199 BK200 HB hHeld ⊢
                refine pure_ (i := 0) (N := some 26) (v := ?_) (a' := ?_) colloquylaw05_KeysAny.m1 rfl rfl (any_of HT_.out (by kernel_rfl)) (fun _ _ _ h => h) (Or.inl ⟨by rfl, ?_⟩) ?_ ?_
                rotate_left
                · intro w'
                  go_simp
                  with_reducible rfl
                rotate_left
                · simp only [Act.put, List.setIfInBounds_toArray, List.set_cons_zero, List.set_cons_succ, i64_w, i32_w]
                  rfl
                refine pure_ (i := 1) (N := some 27) (v := ?_) (a' := ?_) colloquylaw05_KeysAny.m2 rfl rfl (any_of HT_.out (by kernel_rfl)) (fun _ _ _ h => h) (Or.inl ⟨by rfl, ?_⟩) ?_ ?_
                rotate_left
                · intro w'
                  go_simp
                  with_reducible rfl
                rotate_left
                · simp only [Act.put, List.setIfInBounds_toArray, List.set_cons_zero, List.set_cons_succ, i64_w, i32_w]
                  rfl
                refine pure_ (i := 2) (N := some 28) (v := undef) (a' := ?_) colloquylaw05_KeysAny.m4 rfl rfl (any_of HT_.out (by kernel_rfl)) (fun _ _ _ h => h) (Or.inr ⟨by rfl, rfl⟩) ?_ ?_
                rotate_left
                · simp only [Act.put, List.setIfInBounds_toArray, List.set_cons_zero, List.set_cons_succ, i64_w, i32_w]
                  rfl
                refine pure_ (i := 3) (N := some 29) (v := undef) (a' := ?_) colloquylaw05_KeysAny.m6 rfl rfl (any_of HT_.out (by kernel_rfl)) (fun _ _ _ h => h) (Or.inr ⟨by rfl, rfl⟩) ?_ ?_
                rotate_left
                · simp only [Act.put, List.setIfInBounds_toArray, List.set_cons_zero, List.set_cons_succ, i64_w, i32_w]
                  rfl
                refine pure_ (i := 4) (N := some 30) (v := undef) (a' := ?_) colloquylaw05_KeysAny.m8 rfl rfl (any_of HT_.out (by kernel_rfl)) (fun _ _ _ h => h) (Or.inr ⟨by rfl, rfl⟩) ?_ ?_
                rotate_left
                · simp only [Act.put, List.setIfInBounds_toArray, List.set_cons_zero, List.set_cons_succ, i64_w, i32_w]
                  rfl
                refine pure_ (i := 5) (N := some 31) (v := undef) (a' := ?_) colloquylaw05_KeysAny.m9 rfl rfl (any_of HT_.out (by kernel_rfl)) (fun _ _ _ h => h) (Or.inr ⟨by rfl, rfl⟩) ?_ ?_
                rotate_left
                · simp only [Act.put, List.setIfInBounds_toArray, List.set_cons_zero, List.set_cons_succ, i64_w, i32_w]
                  rfl
                refine pure_ (i := 6) (N := some 32) (v := undef) (a' := ?_) colloquylaw05_KeysAny.m10 rfl rfl (any_of HT_.out (by kernel_rfl)) (fun _ _ _ h => h) (Or.inr ⟨by rfl, rfl⟩) ?_ ?_
                rotate_left
                · simp only [Act.put, List.setIfInBounds_toArray, List.set_cons_zero, List.set_cons_succ, i64_w, i32_w]
                  rfl
                refine pure_ (i := 7) (N := some 33) (v := undef) (a' := ?_) colloquylaw05_KeysAny.m11 rfl rfl (any_of HT_.out (by kernel_rfl)) (fun _ _ _ h => h) (Or.inr ⟨by rfl, rfl⟩) ?_ ?_
                rotate_left
                · simp only [Act.put, List.setIfInBounds_toArray, List.set_cons_zero, List.set_cons_succ, i64_w, i32_w]
                  rfl
                refine pure_ (i := 8) (N := some 34) (v := ?_) (a' := ?_) colloquylaw05_KeysAny.m12 rfl rfl (any_of HT_.out (by kernel_rfl)) (fun _ _ _ h => h) (Or.inl ⟨by rfl, ?_⟩) ?_ ?_
                rotate_left
                · intro w'
                  go_simp
                  with_reducible rfl
                rotate_left
                · simp only [Act.put, List.setIfInBounds_toArray, List.set_cons_zero, List.set_cons_succ, i64_w, i32_w]
                  rfl
                refine pure_ (i := 9) (N := some 8) (v := ?_) (a' := ?_) colloquylaw05_KeysAny.m13 rfl rfl (any_of HT_.out (by kernel_rfl)) (fun _ _ _ h => h) (Or.inl ⟨by rfl, ?_⟩) ?_ ?_
                rotate_left
                · intro w'
                  go_simp
                  with_reducible rfl
                rotate_left
                · simp only [Act.put, List.setIfInBounds_toArray, List.set_cons_zero, List.set_cons_succ, i64_w, i32_w]
                  rfl
                refine done_ (done_of HT_.out (by kernel_rfl)) ?_
                try go_wp2
                go_roundg k2
                case measure => have := HJ4.out; have := HK2.out; omega
                case rel => exact ⟨(true), (wrap64 (x9_2 + 1)), (by first | rfl | (simp; done) | (simp [*]; done)), (by first | rfl | (simp; done) | (simp [*]; done)), H', ⟨by have := HJ4.out; have := HK2.out; omega⟩, ⟨by (with_reducible repeat (first | refine blk_drewN ?_ _ | refine blk_drew ?_ | refine blk_alloc ?_ _)); exact BK199.out⟩, ⟨by (with_reducible repeat (first | refine blk_drewN ?_ _ | refine blk_drew ?_ | refine blk_alloc ?_ _)); exact BK200.out⟩, ⟨by repeat (first | (with_reducible first | exact HB.out | apply below_alloc | apply pw_below_drewN | apply below_drew1 | refine below_set ?_ GE199.out | refine below_set ?_ GE200.out) | exact HB.out)⟩⟩
              · replace c12 := Bool.eq_false_iff.mpr c12
                subst c12
                have H1 : (if 0 ≤ x9_2 then ((keys_Interfere.f a0_0 a0_1 a0_2 a0_3 a0_4 a0_5 ((rd_T23 l1 x9_2).f0) ((rd_T23 l1 x9_2).f1) ((rd_T23 l1 x9_2).f2) ((rd_T23 l1 x9_2).f3) ((rd_T23 l1 x9_2).f4) ((rd_T23 l1 x9_2).f5)).bind fun t203 => (colloquylaw05_KeysAny.l0 k2 l1 t203 (wrap64 (x9_2 + 1)) a0_0 a0_1 a0_2 a0_3 a0_4 a0_5 a2_0 a2_1 a2_2 a2_3 a2_4 a2_5)) else (none)) = some r := by rw [if_neg (show ¬ (false = true) by decide)] at H; exact H
                clear H
                have H := H1
                clear H1
                by_cases c14 : 0 ≤ x9_2
                · rw [if_pos c14] at H
                  have c14b0 : decide (0 ≤ x9_2) = true := decide_eq_true c14
                  clear c14
                  replace H := Option.bind_eq_some_iff.mp H
                  obtain ⟨t203, A150, H⟩ := H
                  replace H : (colloquylaw05_KeysAny.l0 k2 l1 t203 (wrap64 (x9_2 + 1)) a0_0 a0_1 a0_2 a0_3 a0_4 a0_5 a2_0 a2_1 a2_2 a2_3 a2_4 a2_5) = some r := H
                  have A15 := Aside0.mk A150
                  clear A150
                  have H' := Aside0.mk H
                  clear H
                  try go_wp2
                  have n0_ := Aside0.mk (blk_drew BK199.out)
                  have n1_ := Aside0.mk (blk_drew BK200.out)
                  have n2_ := Aside0.mk (below_drew1 HB.out)
                  clear BK199
                  clear BK200
                  clear HB
                  have BK199 := n0_
                  have BK200 := n1_
                  have HB := n2_
                  clear n0_ n1_ n2_
                  have p202 : 0 ≤ (x9_2 : Int) := of_decide_eq_true (by first | (with_reducible assumption) | assumption)
                  have q202 : x9_2 < (l1.length : Int) := of_decide_eq_true (by first | (with_reducible assumption) | assumption)
                  obtain ⟨ad202, e202, hx202_0, hx202_1, hx202_2, hx202_3, hx202_4, hx202_5⟩ := at_T23 HR1.out x9_2 p202 q202
                  have hw202_5 := hx202_5
                  have hw202_4 := hx202_4
                  have hw202_3 := hx202_3
                  have hw202_2 := hx202_2
                  have hw202_1 := hx202_1
                  have hw202_0 := hx202_0
                  cases e202
                  replace hx202_0 := (HB.out.cell (World.block_lt_of_cell? w _ hx202_0)).trans hx202_0
                  replace hx202_1 := (HB.out.cell (World.block_lt_of_cell? w _ hx202_1)).trans hx202_1
                  replace hx202_2 := (HB.out.cell (World.block_lt_of_cell? w _ hx202_2)).trans hx202_2
                  replace hx202_3 := (HB.out.cell (World.block_lt_of_cell? w _ hx202_3)).trans hx202_3
                  replace hx202_4 := (HB.out.cell (World.block_lt_of_cell? w _ hx202_4)).trans hx202_4
                  replace hx202_5 := (HB.out.cell (World.block_lt_of_cell? w _ hx202_5)).trans hx202_5
                  replace p202 := eq_true p202
                  replace q202 := eq_true q202
                  refine start_ (n := 10) (S := fun w' => w'.cell? ⟨gb199, 0, none⟩ = some (.int .i64 a0_0) ∧ w'.cell? ⟨gb199, 1, none⟩ = some (.int .i64 a0_1) ∧ w'.cell? ⟨gb199, 2, none⟩ = some (.int .i64 a0_2) ∧ w'.cell? ⟨gb199, 3, none⟩ = some (.int .i64 a0_3) ∧ w'.cell? ⟨gb199, 4, none⟩ = some (.int .i64 a0_4) ∧ w'.cell? ⟨gb199, 5, none⟩ = some (.string a0_5) ∧ w'.cell? (ad202.add ((x9_2).toNat * 6)) = some (.int .i64 ((rd_T23 l1 x9_2).f0)) ∧ w'.cell? ⟨(ad202.add ((x9_2).toNat * 6)).block, (ad202.add ((x9_2).toNat * 6)).off + 1, none⟩ = some (.int .i64 ((rd_T23 l1 x9_2).f1)) ∧ w'.cell? ⟨(ad202.add ((x9_2).toNat * 6)).block, (ad202.add ((x9_2).toNat * 6)).off + 2, none⟩ = some (.int .i64 ((rd_T23 l1 x9_2).f2)) ∧ w'.cell? ⟨(ad202.add ((x9_2).toNat * 6)).block, (ad202.add ((x9_2).toNat * 6)).off + 3, none⟩ = some (.int .i64 ((rd_T23 l1 x9_2).f3)) ∧ w'.cell? ⟨(ad202.add ((x9_2).toNat * 6)).block, (ad202.add ((x9_2).toNat * 6)).off + 4, none⟩ = some (.int .i64 ((rd_T23 l1 x9_2).f4)) ∧ w'.cell? ⟨(ad202.add ((x9_2).toNat * 6)).block, (ad202.add ((x9_2).toNat * 6)).off + 5, none⟩ = some (.string ((rd_T23 l1 x9_2).f5))) (ds := []) colloquylaw05_KeysAny.m0 (by kernel_rfl) rfl rfl ⟨(blk_cell BK199.out 0).trans rfl, (blk_cell BK199.out 1).trans rfl, (blk_cell BK199.out 2).trans rfl, (blk_cell BK199.out 3).trans rfl, (blk_cell BK199.out 4).trans rfl, (blk_cell BK199.out 5).trans rfl, ((HB.out.cell (World.block_lt_of_cell? w _ hw202_0)).trans hw202_0), ((HB.out.cell (World.block_lt_of_cell? w _ hw202_1)).trans hw202_1), ((HB.out.cell (World.block_lt_of_cell? w _ hw202_2)).trans hw202_2), ((HB.out.cell (World.block_lt_of_cell? w _ hw202_3)).trans hw202_3), ((HB.out.cell (World.block_lt_of_cell? w _ hw202_4)).trans hw202_4), ((HB.out.cell (World.block_lt_of_cell? w _ hw202_5)).trans hw202_5)⟩ (fun hHeld => ?_); refine with_tabW colloquylaw05_KeysAny.tab8 colloquylaw05_KeysAny.bits8 (fun HT_ HW_ => ?_)
                  generalize wr.drew = w16 at BK199 BK200 HB hx202_0 hx202_1 hx202_2 hx202_3 hx202_4 hx202_5 hHeld ⊢
                  refine pure_ (i := 0) (N := some 26) (v := ?_) (a' := ?_) colloquylaw05_KeysAny.m1 rfl rfl (any_of HT_.out (by kernel_rfl)) (fun _ _ _ h => h) (Or.inl ⟨by rfl, ?_⟩) ?_ ?_
                  rotate_left
                  · intro w'
                    go_simp
                    with_reducible rfl
                  rotate_left
                  · simp only [Act.put, List.setIfInBounds_toArray, List.set_cons_zero, List.set_cons_succ, i64_w, i32_w]
                    rfl
                  refine pure_ (i := 1) (N := some 27) (v := ?_) (a' := ?_) colloquylaw05_KeysAny.m2 rfl rfl (any_of HT_.out (by kernel_rfl)) (fun _ _ _ h => h) (Or.inl ⟨by rfl, ?_⟩) ?_ ?_
                  rotate_left
                  · intro w'
                    go_simp
                    with_reducible rfl
                  rotate_left
                  · simp only [Act.put, List.setIfInBounds_toArray, List.set_cons_zero, List.set_cons_succ, i64_w, i32_w]
                    rfl
                  refine pure_ (i := 3) (N := some 29) (v := ?_) (a' := ?_) colloquylaw05_KeysAny.m3 rfl rfl (any_of HT_.out (by kernel_rfl)) (fun _ _ _ h => h) (Or.inl ⟨by rfl, ?_⟩) ?_ ?_
                  rotate_left
                  · intro w'
                    go_simp
                    with_reducible rfl
                  rotate_left
                  · simp only [Act.put, List.setIfInBounds_toArray, List.set_cons_zero, List.set_cons_succ, i64_w, i32_w]
                    rfl
                  refine pure_ (i := 4) (N := some 30) (v := ?_) (a' := ?_) colloquylaw05_KeysAny.m5 rfl rfl (any_of HT_.out (by kernel_rfl)) (fun _ _ _ h => h) (Or.inl ⟨by rfl, ?_⟩) ?_ ?_
                  rotate_left
                  · intro w'
                    go_simp
                    with_reducible rfl
                  rotate_left
                  · simp only [Act.put, List.setIfInBounds_toArray, List.set_cons_zero, List.set_cons_succ, i64_w, i32_w]
                    rfl
                  refine pure_ (i := 5) (N := some 31) (v := ?_) (a' := ?_) colloquylaw05_KeysAny.m7 rfl rfl (any_of HT_.out (by kernel_rfl)) (fun _ _ _ h => h) (Or.inl ⟨by rfl, ?_⟩) ?_ ?_
                  rotate_left
                  · intro w'
                    go_simp
                    with_reducible rfl
                  rotate_left
                  · simp only [Act.put, List.setIfInBounds_toArray, List.set_cons_zero, List.set_cons_succ, i64_w, i32_w]
                    rfl
                  refine take_ (i := 2) (N := some 28) (v := ?_) (a' := ?_) colloquylaw05_KeysAny.m9 rfl rfl (take_ofW HT_.out HW_.out (by kernel_rfl)) (fun _ _ _ h => h) (Or.inl ⟨by rfl, ?_⟩) hHeld ?_ ?_
                  rotate_left
                  · rintro w' ⟨s0, s1, s2, s3, s4, s5, s6, s7, s8, s9, s10, s11⟩
                    go_simp
                    with_reducible rfl
                  rotate_left
                  · simp only [Act.put, List.setIfInBounds_toArray, List.set_cons_zero, List.set_cons_succ, i64_w, i32_w]
                    rfl
                  refine take_ (i := 6) (N := some 32) (v := ?_) (a' := ?_) colloquylaw05_KeysAny.m10 rfl rfl (take_ofW HT_.out HW_.out (by kernel_rfl)) (fun _ _ _ h => h) (Or.inl ⟨by rfl, ?_⟩) hHeld ?_ ?_
                  rotate_left
                  · rintro w' ⟨s0, s1, s2, s3, s4, s5, s6, s7, s8, s9, s10, s11⟩
                    go_simp
                    with_reducible rfl
                  rotate_left
                  · simp only [Act.put, List.setIfInBounds_toArray, List.set_cons_zero, List.set_cons_succ, i64_w, i32_w]
                    rfl
                  refine one_ (i := 7) (N := some 33) colloquylaw05_KeysAny.m11 rfl rfl (one_of HT_.out (by kernel_rfl)) (by decide) (fun K hK => ?_)
                  refine goes_ Try.func13 (by kernel_rfl) rfl #[.agg #[.int .i64 a0_0, .int .i64 a0_1, .int .i64 a0_2, .int .i64 a0_3, .int .i64 a0_4, .string a0_5], .agg #[.int .i64 ((rd_T23 l1 x9_2).f0), .int .i64 ((rd_T23 l1 x9_2).f1), .int .i64 ((rd_T23 l1 x9_2).f2), .int .i64 ((rd_T23 l1 x9_2).f3), .int .i64 ((rd_T23 l1 x9_2).f4), .string ((rd_T23 l1 x9_2).f5)]] (by rfl) rfl rfl (by (try simp only [List.map_toArray, List.map_cons, List.map_nil]); first | done | rfl | (simp only [List.length_drop, List.length_take]; rfl)) ?_
                  with_reducible refine (keys_Interfere.calls a0_0 a0_1 a0_2 a0_3 a0_4 a0_5 ((rd_T23 l1 x9_2).f0) ((rd_T23 l1 x9_2).f1) ((rd_T23 l1 x9_2).f2) ((rd_T23 l1 x9_2).f3) ((rd_T23 l1 x9_2).f4) ((rd_T23 l1 x9_2).f5) t203 _ A15.out).mono ?_
                  rintro e w17 ⟨rfl, hb⟩
                  refine ⟨_, rfl, ?_⟩
                  have n0_ := Aside0.mk (blk_below (g := gb199) (o := .cells #[.int .i64 a0_0, .int .i64 a0_1, .int .i64 a0_2, .int .i64 a0_3, .int .i64 a0_4, .string a0_5] 23 (0, 0)) (by (with_reducible repeat (first | refine blk_drewN ?_ _ | refine blk_drew ?_ | refine blk_alloc ?_ _)); exact BK199.out) hb)
                  have n1_ := Aside0.mk (blk_below (g := gb200) (o := .cells #[.int .i64 a2_0, .int .i64 a2_1, .int .i64 a2_2, .int .i64 a2_3, .int .i64 a2_4, .string a2_5] 23 (0, 0)) (by (with_reducible repeat (first | refine blk_drewN ?_ _ | refine blk_drew ?_ | refine blk_alloc ?_ _)); exact BK200.out) hb)
                  have n2_ := Aside0.mk (below_step (by repeat (first | (with_reducible first | exact HB.out | apply below_alloc | apply pw_below_drewN | apply below_drew1 | refine below_set ?_ GE199.out | refine below_set ?_ GE200.out) | exact HB.out)) hb)
                  clear BK199
                  clear BK200
                  clear HB
                  have BK199 := n0_
                  have BK200 := n1_
                  have HB := n2_
                  clear n0_ n1_ n2_
                  (try clear hb)
                  (try clear hb2)
                  (try clear hk)
                  (try clear hi)
                  refine hK.out _ _ ⟨(blk_cell BK199.out 0).trans rfl, (blk_cell BK199.out 1).trans rfl, (blk_cell BK199.out 2).trans rfl, (blk_cell BK199.out 3).trans rfl, (blk_cell BK199.out 4).trans rfl, (blk_cell BK199.out 5).trans rfl, ((HB.out.cell (World.block_lt_of_cell? w _ hw202_0)).trans hw202_0), ((HB.out.cell (World.block_lt_of_cell? w _ hw202_1)).trans hw202_1), ((HB.out.cell (World.block_lt_of_cell? w _ hw202_2)).trans hw202_2), ((HB.out.cell (World.block_lt_of_cell? w _ hw202_3)).trans hw202_3), ((HB.out.cell (World.block_lt_of_cell? w _ hw202_4)).trans hw202_4), ((HB.out.cell (World.block_lt_of_cell? w _ hw202_5)).trans hw202_5)⟩ (fun hHeld => ?_)
                  clear hK K
                  refine norm_ (a' := ?_) ?_ ?_
                  rotate_left
                  · show Act.put _ (some 33) _ = _
                    simp only [Act.put, List.setIfInBounds_toArray, List.set_cons_zero, List.set_cons_succ, i64_w, i32_w]
                    rfl
                  refine pure_ (i := 8) (N := some 34) (v := ?_) (a' := ?_) colloquylaw05_KeysAny.m12 rfl rfl (any_of HT_.out (by kernel_rfl)) (fun _ _ _ h => h) (Or.inl ⟨by rfl, ?_⟩) ?_ ?_
                  rotate_left
                  · intro w'
                    go_simp
                    with_reducible rfl
                  rotate_left
                  · simp only [Act.put, List.setIfInBounds_toArray, List.set_cons_zero, List.set_cons_succ, i64_w, i32_w]
                    rfl
                  refine pure_ (i := 9) (N := some 8) (v := ?_) (a' := ?_) colloquylaw05_KeysAny.m13 rfl rfl (any_of HT_.out (by kernel_rfl)) (fun _ _ _ h => h) (Or.inl ⟨by rfl, ?_⟩) ?_ ?_
                  rotate_left
                  · intro w'
                    go_simp
                    with_reducible rfl
                  rotate_left
                  · simp only [Act.put, List.setIfInBounds_toArray, List.set_cons_zero, List.set_cons_succ, i64_w, i32_w]
                    rfl
                  refine done_ (done_of HT_.out (by kernel_rfl)) ?_
                  try go_wp2
                  go_roundg k2
                  case measure => have := HJ4.out; have := HK2.out; omega
                  case rel => exact ⟨(t203), (wrap64 (x9_2 + 1)), (by first | rfl | (simp; done) | (simp [*]; done)), (by first | rfl | (simp; done) | (simp [*]; done)), H', ⟨by have := HJ4.out; have := HK2.out; omega⟩, ⟨by (with_reducible repeat (first | refine blk_drewN ?_ _ | refine blk_drew ?_ | refine blk_alloc ?_ _)); exact BK199.out⟩, ⟨by (with_reducible repeat (first | refine blk_drewN ?_ _ | refine blk_drew ?_ | refine blk_alloc ?_ _)); exact BK200.out⟩, ⟨by repeat (first | (with_reducible first | exact HB.out | apply below_alloc | apply pw_below_drewN | apply below_drew1 | refine below_set ?_ GE199.out | refine below_set ?_ GE200.out) | exact HB.out)⟩⟩
                · rw [if_neg c14] at H
                  exact absurd H (by simp)
            · rw [if_neg c11] at H
              have c11b0 : decide (x9_2 < (l1.length : Int)) = false := decide_eq_false c11
              clear c11
              by_cases c18 : ([] : List (S23)).length + l1.length < 2513169434916
              · rw [if_pos c18] at H
                have LMc18 := Aside0.mk c18
                clear c18
                obtain ⟨y204, hy204⟩ : ∃ y_ : List (S23), y_ = (([] : List (S23)) ++ l1) := ⟨_, rfl⟩
                replace H : ((some (([(⟨a2_0, a2_1, a2_2, a2_3, a2_4, a2_5⟩ : S23)] : List (S23)) : List (S23))).bind fun y207 => (if y204.length + y207.length < 2513169434916 then ((keys_Any.f a0_0 a0_1 a0_2 a0_3 a0_4 a0_5 l1).bind fun t213 => (if (t213 == x8_2) = true then ((keys_Any.f a0_0 a0_1 a0_2 a0_3 a0_4 a0_5 (y204 ++ y207)).bind fun t214 => (if x8_2 = true then (some (t214 == true)) else ((keys_Interfere.f a0_0 a0_1 a0_2 a0_3 a0_4 a0_5 a2_0 a2_1 a2_2 a2_3 a2_4 a2_5).bind fun t215 => (some (t214 == t215))))) else (some false))) else (none))) = some r := by first | (rw [hy204]; with_reducible exact H) | (have H2_ := (Option.bind_some _ _).symm.trans H; rw [hy204]; with_reducible exact H2_) | (have H2_ := (Option.bind_some _ _).symm.trans H; with_reducible exact H2_) | with_reducible exact H | (rw [hy204]; exact H) | exact H
                have Ny204 := Aside0.mk hy204
                clear hy204
                obtain ⟨y207, hy207⟩ : ∃ y_ : List (S23), y_ = (([(⟨a2_0, a2_1, a2_2, a2_3, a2_4, a2_5⟩ : S23)] : List (S23))) := ⟨_, rfl⟩
                replace H : (if y204.length + y207.length < 2513169434916 then ((keys_Any.f a0_0 a0_1 a0_2 a0_3 a0_4 a0_5 l1).bind fun t213 => (if (t213 == x8_2) = true then ((keys_Any.f a0_0 a0_1 a0_2 a0_3 a0_4 a0_5 (y204 ++ y207)).bind fun t214 => (if x8_2 = true then (some (t214 == true)) else ((keys_Interfere.f a0_0 a0_1 a0_2 a0_3 a0_4 a0_5 a2_0 a2_1 a2_2 a2_3 a2_4 a2_5).bind fun t215 => (some (t214 == t215))))) else (some false))) else (none)) = some r := by first | (rw [hy207]; with_reducible exact H) | (have H2_ := (Option.bind_some _ _).symm.trans H; rw [hy207]; with_reducible exact H2_) | (have H2_ := (Option.bind_some _ _).symm.trans H; with_reducible exact H2_) | with_reducible exact H | (rw [hy207]; exact H) | exact H
                have Ny207 := Aside0.mk hy207
                clear hy207
                by_cases c19 : y204.length + y207.length < 2513169434916
                · rw [if_pos c19] at H
                  have LMc19 := Aside0.mk c19
                  clear c19
                  obtain ⟨y210, hy210⟩ : ∃ y_ : List (S23), y_ = (y204 ++ y207) := ⟨_, rfl⟩
                  replace H : ((keys_Any.f a0_0 a0_1 a0_2 a0_3 a0_4 a0_5 l1).bind fun t213 => (if (t213 == x8_2) = true then ((keys_Any.f a0_0 a0_1 a0_2 a0_3 a0_4 a0_5 y210).bind fun t214 => (if x8_2 = true then (some (t214 == true)) else ((keys_Interfere.f a0_0 a0_1 a0_2 a0_3 a0_4 a0_5 a2_0 a2_1 a2_2 a2_3 a2_4 a2_5).bind fun t215 => (some (t214 == t215))))) else (some false))) = some r := by first | (rw [hy210]; with_reducible exact H) | (have H2_ := (Option.bind_some _ _).symm.trans H; rw [hy210]; with_reducible exact H2_) | (have H2_ := (Option.bind_some _ _).symm.trans H; with_reducible exact H2_) | with_reducible exact H | (rw [hy210]; exact H) | exact H
                  have Ny210 := Aside0.mk hy210
                  clear hy210
                  replace H := Option.bind_eq_some_iff.mp H
                  obtain ⟨t213, A200, H⟩ := H
                  replace H : (if (t213 == x8_2) = true then ((keys_Any.f a0_0 a0_1 a0_2 a0_3 a0_4 a0_5 y210).bind fun t214 => (if x8_2 = true then (some (t214 == true)) else ((keys_Interfere.f a0_0 a0_1 a0_2 a0_3 a0_4 a0_5 a2_0 a2_1 a2_2 a2_3 a2_4 a2_5).bind fun t215 => (some (t214 == t215))))) else (some false)) = some r := H
                  have A20 := Aside0.mk A200
                  clear A200
                  by_cases c21 : (t213 == x8_2) = true
                  · rw [if_pos c21] at H
                    have c21b0 : (t213 == x8_2) = true := c21
                    (try (have c21b1 : decide (t213 = x8_2) = true := by simpa using c21))
                    (try (have c21b2 : (t213 == x8_2) = true := by simpa using c21))
                    clear c21
                    replace H := Option.bind_eq_some_iff.mp H
                    obtain ⟨t214, A220, H⟩ := H
                    replace H : (if x8_2 = true then (some (t214 == true)) else ((keys_Interfere.f a0_0 a0_1 a0_2 a0_3 a0_4 a0_5 a2_0 a2_1 a2_2 a2_3 a2_4 a2_5).bind fun t215 => (some (t214 == t215)))) = some r := H
                    have A22 := Aside0.mk A220
                    clear A220
                    by_cases c23 : x8_2 = true
                    · subst c23
                      have H1 : (some (t214 == true)) = some r := by rw [if_pos rfl] at H; exact H
                      clear H
                      have H := H1
                      clear H1
                      obtain rfl := Option.some.inj H
                      try go_wp2
                      have n0_ := Aside0.mk (blk_drew BK199.out)
                      have n1_ := Aside0.mk (blk_drew BK200.out)
                      have n2_ := Aside0.mk (below_drew1 HB.out)
                      clear BK199
                      clear BK200
                      clear HB
                      have BK199 := n0_
                      have BK200 := n1_
                      have HB := n2_
                      clear n0_ n1_ n2_
                      refine start_ (n := 6) (S := fun w' => w'.cell? ⟨gb200, 0, none⟩ = some (.int .i64 a2_0) ∧ w'.cell? ⟨gb200, 1, none⟩ = some (.int .i64 a2_1) ∧ w'.cell? ⟨gb200, 2, none⟩ = some (.int .i64 a2_2) ∧ w'.cell? ⟨gb200, 3, none⟩ = some (.int .i64 a2_3) ∧ w'.cell? ⟨gb200, 4, none⟩ = some (.int .i64 a2_4) ∧ w'.cell? ⟨gb200, 5, none⟩ = some (.string a2_5)) (ds := []) #[false, false, false, false, false, false] (by kernel_rfl) rfl rfl ⟨(blk_cell BK200.out 0).trans rfl, (blk_cell BK200.out 1).trans rfl, (blk_cell BK200.out 2).trans rfl, (blk_cell BK200.out 3).trans rfl, (blk_cell BK200.out 4).trans rfl, (blk_cell BK200.out 5).trans rfl⟩ (fun hHeld => ?_)
                      generalize wr.drew = w24 at BK199 BK200 HB hHeld ⊢
                      refine pure_ (i := 0) (N := some 35) (v := ?_) (a' := ?_) #[true, false, false, false, false, false] rfl rfl (by kernel_rfl) (fun _ _ _ h => h) (Or.inl ⟨by rfl, ?_⟩) ?_ ?_
                      rotate_left
                      · intro w'
                        go_simp
                        with_reducible rfl
                      rotate_left
                      · simp only [Act.put, List.setIfInBounds_toArray, List.set_cons_zero, List.set_cons_succ, i64_w, i32_w]
                        rfl
                      refine take_ (i := 2) (N := some 37) (v := ?_) (a' := ?_) #[true, false, true, false, false, false] rfl rfl (by kernel_rfl) (fun _ _ _ h => h) (Or.inl ⟨by rfl, ?_⟩) hHeld ?_ ?_
                      rotate_left
                      · rintro w' ⟨s0, s1, s2, s3, s4, s5⟩
                        go_simp
                        with_reducible rfl
                      rotate_left
                      · simp only [Act.put, List.setIfInBounds_toArray, List.set_cons_zero, List.set_cons_succ, i64_w, i32_w]
                        rfl
                      refine join_ (σ := Value × Value) 2 #[true, true, true, true, false, false] (fun s_ => [(36, s_.1), (38, s_.2)]) (fun s_ w' => (w'.cell? ⟨gb200, 0, none⟩ = some (.int .i64 a2_0) ∧ w'.cell? ⟨gb200, 1, none⟩ = some (.int .i64 a2_1) ∧ w'.cell? ⟨gb200, 2, none⟩ = some (.int .i64 a2_2) ∧ w'.cell? ⟨gb200, 3, none⟩ = some (.int .i64 a2_3) ∧ w'.cell? ⟨gb200, 4, none⟩ = some (.int .i64 a2_4) ∧ w'.cell? ⟨gb200, 5, none⟩ = some (.string a2_5)) ∧ (Kd.R k23 23 w' w.heap.size (fun k_ => some k_ ≠ (s_.2 : Value).ownBlock ∧ k_ ≠ gb199 ∧ k_ ≠ gb200) s_.1 y204) ∧ (Kd.R k23 23 w' w.heap.size (fun k_ => some k_ ≠ (s_.1 : Value).ownBlock ∧ k_ ≠ gb199 ∧ k_ ≠ gb200) s_.2 y207) ∧ (w'.heap[gb199]? = some (.cells #[.int .i64 a0_0, .int .i64 a0_1, .int .i64 a0_2, .int .i64 a0_3, .int .i64 a0_4, .string a0_5] 23 (0, 0))) ∧ (w'.heap[gb200]? = some (.cells #[.int .i64 a2_0, .int .i64 a2_1, .int .i64 a2_2, .int .i64 a2_3, .int .i64 a2_4, .string a2_5] 23 (0, 0))) ∧ (Below w.heap.size w w')) ?_ ?_
                      rotate_left
                      · intro hCont
                        refine two_ (i := 1) (j := 3) (Ni := some 36) (Nj := some 38) #[true, true, true, false, false, false] #[true, false, true, true, false, false] rfl rfl rfl rfl (by kernel_rfl) (by decide) (by decide) (fun K hK => ?_) (fun K hK => ?_)
                        · skip
                          refine Kd.R_append_rows_step k23 (w0 := w) w.heap.size (by rfl) (.const (.slice none 0 0)) (.tmp 35) 33 23 (.agg #[(.int .i64 0), (.int .i64 0), (.int .i64 0), (.int .i64 0), (.int .i64 0), (.string ⟨#[]⟩)]) 56 rfl Try.underlying33 info23 rfl (by decide) (by omega) (.slice none 0 0) ([] : List (S23)) l1 _ _ _ (fun k_ => k_ ≠ gb199 ∧ k_ ≠ gb200) (fun _ => False) rfl rfl ?aO ?aR (fun _ _ h => h) (fun _ h => h.elim) ?aF ?aB ?aS ?aL ?_
                          (case aR => repeat (first | exact (Kd.C_below HR1.out HB.out) | (with_reducible refine Kd.C_alloc ?_ _) | (with_reducible refine Kd.C_drewN ?_ _) | (with_reducible refine Kd.C_drew ?_)))
                          (case aB => exact (by repeat (first | (with_reducible first | exact HB.out | apply below_alloc | apply pw_below_drewN | apply below_drew1 | refine below_set ?_ GE199.out | refine below_set ?_ GE200.out) | exact HB.out)))
                          (case aF => exact (fun k_ hk => ⟨Kd.freshB (g := gb199) (o := .cells #[.int .i64 a0_0, .int .i64 a0_1, .int .i64 a0_2, .int .i64 a0_3, .int .i64 a0_4, .string a0_5] 23 (0, 0)) (by (with_reducible repeat (first | refine blk_drewN ?_ _ | refine blk_drew ?_ | refine blk_alloc ?_ _)); exact BK199.out) k_ hk, Kd.freshB (g := gb200) (o := .cells #[.int .i64 a2_0, .int .i64 a2_1, .int .i64 a2_2, .int .i64 a2_3, .int .i64 a2_4, .string a2_5] 23 (0, 0)) (by (with_reducible repeat (first | refine blk_drewN ?_ _ | refine blk_drew ?_ | refine blk_alloc ?_ _)); exact BK200.out) k_ hk⟩))
                          (case aO => exact ((Kd.R_nil _ _ _ _ (fun k_ => k_ ≠ gb199 ∧ k_ ≠ gb200))))
                          (case aS => exact (below_size (by repeat (first | (with_reducible first | exact HB.out | apply below_alloc | apply pw_below_drewN | apply below_drew1 | refine below_set ?_ GE199.out | refine below_set ?_ GE200.out) | exact HB.out))))
                          (case aL => have := LMc18.out; omega)
                          intro v205 w25 ho hb hg hat
                          rw [← Ny204.out] at ho
                          have n0_ := Aside0.mk (blk_grown (g := gb199) (o := .cells #[.int .i64 a0_0, .int .i64 a0_1, .int .i64 a0_2, .int .i64 a0_3, .int .i64 a0_4, .string a0_5] 23 (0, 0)) (by (with_reducible repeat (first | refine blk_drewN ?_ _ | refine blk_drew ?_ | refine blk_alloc ?_ _)); exact BK199.out) hg (by simp [Value.ownBlock]))
                          have n1_ := Aside0.mk (blk_grown (g := gb200) (o := .cells #[.int .i64 a2_0, .int .i64 a2_1, .int .i64 a2_2, .int .i64 a2_3, .int .i64 a2_4, .string a2_5] 23 (0, 0)) (by (with_reducible repeat (first | refine blk_drewN ?_ _ | refine blk_drew ?_ | refine blk_alloc ?_ _)); exact BK200.out) hg (by simp [Value.ownBlock]))
                          have n2_ := Aside0.mk (hb)
                          have n3_ := Aside0.mk (ho)
                          clear BK199
                          clear BK200
                          clear HB
                          have BK199 := n0_
                          have BK200 := n1_
                          have HB := n2_
                          have HO206 := n3_
                          clear n0_ n1_ n2_ n3_
                          clear ho hb hg hat
                          refine hK.out _ _ ⟨(blk_cell BK200.out 0).trans rfl, (blk_cell BK200.out 1).trans rfl, (blk_cell BK200.out 2).trans rfl, (blk_cell BK200.out 3).trans rfl, (blk_cell BK200.out 4).trans rfl, (blk_cell BK200.out 5).trans rfl⟩ (fun hHeld => ?_)
                          clear hK K
                          refine norm_ (a' := ?_) ?_ ?_
                          rotate_left
                          · show Act.put _ (some 36) _ = _
                            simp only [Act.put, List.setIfInBounds_toArray, List.set_cons_zero, List.set_cons_succ, i64_w, i32_w]
                            rfl
                          refine one_ (i := 3) (N := some 38) #[true, true, true, true, false, false] rfl rfl (by kernel_rfl) (by decide) (fun K hK => ?_)
                          refine Kd.R_lit_step k23 _ 23 ?hg (N := 38) ?hd (xs := ([(⟨a2_0, a2_1, a2_2, a2_3, a2_4, a2_5⟩ : S23)] : List (S23))) (inner := [.int .i64 a2_0, .int .i64 a2_1, .int .i64 a2_2, .int .i64 a2_3, .int .i64 a2_4, .string a2_5]) (ok := fun _ => True) (okp := fun _ => True) ?hr ?hp (fun _ hk => hk) trivial (Below.refl _ _) (Nat.le_refl _) (by simp) ?_; (case hd => rfl); (case hg => rfl); (case hr => first | (go_simp; done) | (go_simp; rfl)); (case hp => exact (Reps.c6 (show Kd.M k23 _ _ _ (⟨a2_0, a2_1, a2_2, a2_3, a2_4, a2_5⟩ : S23) [.int .i64 a2_0, .int .i64 a2_1, .int .i64 a2_2, .int .i64 a2_3, .int .i64 a2_4, .string a2_5] from (k23_mkM _ _ _ (⟨a2_0, a2_1, a2_2, a2_3, a2_4, a2_5⟩ : S23) )) (Reps.none _ _)))
                          intro v208 w26 ho27 hb hg_ hnew_
                          clear hg_ hnew_
                          (first | rw [← Ny207.out] at ho27 | (simp only [Int.reduceToNat] at ho27; rw [← Ny207.out] at ho27))
                          have n0_ := Aside0.mk (Kd.R_elder' (by (with_reducible repeat (first | apply Kd.R_alloc | apply Kd.R_drewN | apply Kd.R_drew)); exact HO206.out) (Kd.R_base ho27) hb)
                          have n1_ := Aside0.mk (Kd.R_lower (Kd.R_newB (Kd.R_newB (Kd.R_new' ho27 (Kd.R_lt (by (with_reducible repeat (first | apply Kd.R_alloc | apply Kd.R_drewN | apply Kd.R_drew)); exact HO206.out))) (g := gb199) (o := .cells #[.int .i64 a0_0, .int .i64 a0_1, .int .i64 a0_2, .int .i64 a0_3, .int .i64 a0_4, .string a0_5] 23 (0, 0)) (by (with_reducible repeat (first | refine blk_drewN ?_ _ | refine blk_drew ?_ | refine blk_alloc ?_ _)); exact BK199.out)) (g := gb200) (o := .cells #[.int .i64 a2_0, .int .i64 a2_1, .int .i64 a2_2, .int .i64 a2_3, .int .i64 a2_4, .string a2_5] 23 (0, 0)) (by (with_reducible repeat (first | refine blk_drewN ?_ _ | refine blk_drew ?_ | refine blk_alloc ?_ _)); exact BK200.out)) (below_size (by repeat (first | (with_reducible first | exact HB.out | apply below_alloc | apply pw_below_drewN | apply below_drew1 | refine below_set ?_ GE199.out | refine below_set ?_ GE200.out) | exact HB.out))))
                          have n2_ := Aside0.mk (blk_below (g := gb199) (o := .cells #[.int .i64 a0_0, .int .i64 a0_1, .int .i64 a0_2, .int .i64 a0_3, .int .i64 a0_4, .string a0_5] 23 (0, 0)) (by (with_reducible repeat (first | refine blk_drewN ?_ _ | refine blk_drew ?_ | refine blk_alloc ?_ _)); exact BK199.out) hb)
                          have n3_ := Aside0.mk (blk_below (g := gb200) (o := .cells #[.int .i64 a2_0, .int .i64 a2_1, .int .i64 a2_2, .int .i64 a2_3, .int .i64 a2_4, .string a2_5] 23 (0, 0)) (by (with_reducible repeat (first | refine blk_drewN ?_ _ | refine blk_drew ?_ | refine blk_alloc ?_ _)); exact BK200.out) hb)
                          have n4_ := Aside0.mk (below_step (by repeat (first | (with_reducible first | exact HB.out | apply below_alloc | apply pw_below_drewN | apply below_drew1 | refine below_set ?_ GE199.out | refine below_set ?_ GE200.out) | exact HB.out)) hb)
                          clear HO206
                          clear BK199
                          clear BK200
                          clear HB
                          have HO206 := n0_
                          have HO209 := n1_
                          have BK199 := n2_
                          have BK200 := n3_
                          have HB := n4_
                          clear n0_ n1_ n2_ n3_ n4_
                          clear hb ho27
                          refine hK.out _ _ ⟨(blk_cell BK200.out 0).trans rfl, (blk_cell BK200.out 1).trans rfl, (blk_cell BK200.out 2).trans rfl, (blk_cell BK200.out 3).trans rfl, (blk_cell BK200.out 4).trans rfl, (blk_cell BK200.out 5).trans rfl⟩ (fun hHeld => ?_)
                          clear hK K
                          refine norm_ (a' := ?_) ?_ ?_
                          rotate_left
                          · show Act.put _ (some 38) _ = _
                            simp only [Act.put, List.setIfInBounds_toArray, List.set_cons_zero, List.set_cons_succ, i64_w, i32_w]
                            rfl
                          exact norm_ (by simp only [putAll, Act.put, List.setIfInBounds_toArray, List.set_cons_zero, List.set_cons_succ]) (hCont (v205, v208) _ ⟨hHeld, (by (with_reducible repeat (first | apply Kd.R_alloc | apply Kd.R_drewN | apply Kd.R_drew)); exact Kd.R_mono HO206.out (fun _ hk => ⟨hk.2, ⟨hk.1.1, hk.1.2⟩⟩)), (by (with_reducible repeat (first | apply Kd.R_alloc | apply Kd.R_drewN | apply Kd.R_drew)); exact Kd.R_mono HO209.out (fun _ hk => ⟨hk.1.1.2, ⟨hk.1.2, hk.2⟩⟩)), (by (with_reducible repeat (first | refine blk_drewN ?_ _ | refine blk_drew ?_ | refine blk_alloc ?_ _)); exact BK199.out), (by (with_reducible repeat (first | refine blk_drewN ?_ _ | refine blk_drew ?_ | refine blk_alloc ?_ _)); exact BK200.out), (by repeat (first | (with_reducible first | exact HB.out | apply below_alloc | apply pw_below_drewN | apply below_drew1 | refine below_set ?_ GE199.out | refine below_set ?_ GE200.out) | exact HB.out))⟩)
                        · skip
                          refine Kd.R_lit_step k23 _ 23 ?hg (N := 38) ?hd (xs := ([(⟨a2_0, a2_1, a2_2, a2_3, a2_4, a2_5⟩ : S23)] : List (S23))) (inner := [.int .i64 a2_0, .int .i64 a2_1, .int .i64 a2_2, .int .i64 a2_3, .int .i64 a2_4, .string a2_5]) (ok := fun _ => True) (okp := fun _ => True) ?hr ?hp (fun _ hk => hk) trivial (Below.refl _ _) (Nat.le_refl _) (by simp) ?_; (case hd => rfl); (case hg => rfl); (case hr => first | (go_simp; done) | (go_simp; rfl)); (case hp => exact (Reps.c6 (show Kd.M k23 _ _ _ (⟨a2_0, a2_1, a2_2, a2_3, a2_4, a2_5⟩ : S23) [.int .i64 a2_0, .int .i64 a2_1, .int .i64 a2_2, .int .i64 a2_3, .int .i64 a2_4, .string a2_5] from (k23_mkM _ _ _ (⟨a2_0, a2_1, a2_2, a2_3, a2_4, a2_5⟩ : S23) )) (Reps.none _ _)))
                          intro v208 w25 ho26 hb hg_ hnew_
                          clear hg_ hnew_
                          (first | rw [← Ny207.out] at ho26 | (simp only [Int.reduceToNat] at ho26; rw [← Ny207.out] at ho26))
                          have n0_ := Aside0.mk (Kd.R_lower (Kd.R_newB (Kd.R_newB ho26 (g := gb199) (o := .cells #[.int .i64 a0_0, .int .i64 a0_1, .int .i64 a0_2, .int .i64 a0_3, .int .i64 a0_4, .string a0_5] 23 (0, 0)) (by (with_reducible repeat (first | refine blk_drewN ?_ _ | refine blk_drew ?_ | refine blk_alloc ?_ _)); exact BK199.out)) (g := gb200) (o := .cells #[.int .i64 a2_0, .int .i64 a2_1, .int .i64 a2_2, .int .i64 a2_3, .int .i64 a2_4, .string a2_5] 23 (0, 0)) (by (with_reducible repeat (first | refine blk_drewN ?_ _ | refine blk_drew ?_ | refine blk_alloc ?_ _)); exact BK200.out)) (below_size (by repeat (first | (with_reducible first | exact HB.out | apply below_alloc | apply pw_below_drewN | apply below_drew1 | refine below_set ?_ GE199.out | refine below_set ?_ GE200.out) | exact HB.out))))
                          have n1_ := Aside0.mk (blk_below (g := gb199) (o := .cells #[.int .i64 a0_0, .int .i64 a0_1, .int .i64 a0_2, .int .i64 a0_3, .int .i64 a0_4, .string a0_5] 23 (0, 0)) (by (with_reducible repeat (first | refine blk_drewN ?_ _ | refine blk_drew ?_ | refine blk_alloc ?_ _)); exact BK199.out) hb)
                          have n2_ := Aside0.mk (blk_below (g := gb200) (o := .cells #[.int .i64 a2_0, .int .i64 a2_1, .int .i64 a2_2, .int .i64 a2_3, .int .i64 a2_4, .string a2_5] 23 (0, 0)) (by (with_reducible repeat (first | refine blk_drewN ?_ _ | refine blk_drew ?_ | refine blk_alloc ?_ _)); exact BK200.out) hb)
                          have n3_ := Aside0.mk (below_step (by repeat (first | (with_reducible first | exact HB.out | apply below_alloc | apply pw_below_drewN | apply below_drew1 | refine below_set ?_ GE199.out | refine below_set ?_ GE200.out) | exact HB.out)) hb)
                          clear BK199
                          clear BK200
                          clear HB
                          have HO209 := n0_
                          have BK199 := n1_
                          have BK200 := n2_
                          have HB := n3_
                          clear n0_ n1_ n2_ n3_
                          clear hb ho26
                          refine hK.out _ _ ⟨(blk_cell BK200.out 0).trans rfl, (blk_cell BK200.out 1).trans rfl, (blk_cell BK200.out 2).trans rfl, (blk_cell BK200.out 3).trans rfl, (blk_cell BK200.out 4).trans rfl, (blk_cell BK200.out 5).trans rfl⟩ (fun hHeld => ?_)
                          clear hK K
                          refine norm_ (a' := ?_) ?_ ?_
                          rotate_left
                          · show Act.put _ (some 38) _ = _
                            simp only [Act.put, List.setIfInBounds_toArray, List.set_cons_zero, List.set_cons_succ, i64_w, i32_w]
                            rfl
                          refine one_ (i := 1) (N := some 36) #[true, true, true, true, false, false] rfl rfl (by kernel_rfl) (by decide) (fun K hK => ?_)
                          refine Kd.R_append_rows_step k23 (w0 := w) w.heap.size (by rfl) (.const (.slice none 0 0)) (.tmp 35) 33 23 (.agg #[(.int .i64 0), (.int .i64 0), (.int .i64 0), (.int .i64 0), (.int .i64 0), (.string ⟨#[]⟩)]) 56 rfl Try.underlying33 info23 rfl (by decide) (by omega) (.slice none 0 0) ([] : List (S23)) l1 _ _ _ (fun k_ => some k_ ≠ (v208 : Value).ownBlock ∧ k_ ≠ gb199 ∧ k_ ≠ gb200) (fun _ => False) rfl rfl ?aO ?aR (fun _ _ h => h) (fun _ h => h.elim) ?aF ?aB ?aS ?aL ?_
                          (case aR => repeat (first | exact (Kd.C_below HR1.out HB.out) | (with_reducible refine Kd.C_alloc ?_ _) | (with_reducible refine Kd.C_drewN ?_ _) | (with_reducible refine Kd.C_drew ?_)))
                          (case aB => exact (by repeat (first | (with_reducible first | exact HB.out | apply below_alloc | apply pw_below_drewN | apply below_drew1 | refine below_set ?_ GE199.out | refine below_set ?_ GE200.out) | exact HB.out)))
                          (case aF => exact (fun k_ hk => ⟨Kd.fresh' (Kd.R_lt (by (with_reducible repeat (first | apply Kd.R_alloc | apply Kd.R_drewN | apply Kd.R_drew)); exact HO209.out)) k_ hk, Kd.freshB (g := gb199) (o := .cells #[.int .i64 a0_0, .int .i64 a0_1, .int .i64 a0_2, .int .i64 a0_3, .int .i64 a0_4, .string a0_5] 23 (0, 0)) (by (with_reducible repeat (first | refine blk_drewN ?_ _ | refine blk_drew ?_ | refine blk_alloc ?_ _)); exact BK199.out) k_ hk, Kd.freshB (g := gb200) (o := .cells #[.int .i64 a2_0, .int .i64 a2_1, .int .i64 a2_2, .int .i64 a2_3, .int .i64 a2_4, .string a2_5] 23 (0, 0)) (by (with_reducible repeat (first | refine blk_drewN ?_ _ | refine blk_drew ?_ | refine blk_alloc ?_ _)); exact BK200.out) k_ hk⟩))
                          (case aO => exact ((Kd.R_nil _ _ _ _ (fun k_ => some k_ ≠ (v208 : Value).ownBlock ∧ k_ ≠ gb199 ∧ k_ ≠ gb200))))
                          (case aS => exact (below_size (by repeat (first | (with_reducible first | exact HB.out | apply below_alloc | apply pw_below_drewN | apply below_drew1 | refine below_set ?_ GE199.out | refine below_set ?_ GE200.out) | exact HB.out))))
                          (case aL => have := LMc18.out; omega)
                          intro v205 w27 ho hb hg hat
                          rw [← Ny204.out] at ho
                          have n0_ := Aside0.mk (blk_grown (g := gb199) (o := .cells #[.int .i64 a0_0, .int .i64 a0_1, .int .i64 a0_2, .int .i64 a0_3, .int .i64 a0_4, .string a0_5] 23 (0, 0)) (by (with_reducible repeat (first | refine blk_drewN ?_ _ | refine blk_drew ?_ | refine blk_alloc ?_ _)); exact BK199.out) hg (by simp [Value.ownBlock]))
                          have n1_ := Aside0.mk (blk_grown (g := gb200) (o := .cells #[.int .i64 a2_0, .int .i64 a2_1, .int .i64 a2_2, .int .i64 a2_3, .int .i64 a2_4, .string a2_5] 23 (0, 0)) (by (with_reducible repeat (first | refine blk_drewN ?_ _ | refine blk_drew ?_ | refine blk_alloc ?_ _)); exact BK200.out) hg (by simp [Value.ownBlock]))
                          have n2_ := Aside0.mk (Kd.R_after (Kd.R_apart_nil (by (with_reducible repeat (first | apply Kd.R_alloc | apply Kd.R_drewN | apply Kd.R_drew)); exact HO209.out)) hg hat)
                          have n3_ := Aside0.mk (hb)
                          have n4_ := Aside0.mk (ho)
                          clear BK199
                          clear BK200
                          clear HO209
                          clear HB
                          have BK199 := n0_
                          have BK200 := n1_
                          have HO209 := n2_
                          have HB := n3_
                          have HO206 := n4_
                          clear n0_ n1_ n2_ n3_ n4_
                          clear ho hb hg hat
                          refine hK.out _ _ ⟨(blk_cell BK200.out 0).trans rfl, (blk_cell BK200.out 1).trans rfl, (blk_cell BK200.out 2).trans rfl, (blk_cell BK200.out 3).trans rfl, (blk_cell BK200.out 4).trans rfl, (blk_cell BK200.out 5).trans rfl⟩ (fun hHeld => ?_)
                          clear hK K
                          refine norm_ (a' := ?_) ?_ ?_
                          rotate_left
                          · show Act.put _ (some 36) _ = _
                            simp only [Act.put, List.setIfInBounds_toArray, List.set_cons_zero, List.set_cons_succ, i64_w, i32_w]
                            rfl
                          exact norm_ (by simp only [putAll, Act.put, List.setIfInBounds_toArray, List.set_cons_zero, List.set_cons_succ]) (hCont (v205, v208) _ ⟨hHeld, (by (with_reducible repeat (first | apply Kd.R_alloc | apply Kd.R_drewN | apply Kd.R_drew)); exact HO206.out), (by (with_reducible repeat (first | apply Kd.R_alloc | apply Kd.R_drewN | apply Kd.R_drew)); exact Kd.R_mono HO209.out (fun _ hk => ⟨hk.2, ⟨hk.1.1.2, hk.1.2⟩⟩)), (by (with_reducible repeat (first | refine blk_drewN ?_ _ | refine blk_drew ?_ | refine blk_alloc ?_ _)); exact BK199.out), (by (with_reducible repeat (first | refine blk_drewN ?_ _ | refine blk_drew ?_ | refine blk_alloc ?_ _)); exact BK200.out), (by repeat (first | (with_reducible first | exact HB.out | apply below_alloc | apply pw_below_drewN | apply below_drew1 | refine below_set ?_ GE199.out | refine below_set ?_ GE200.out) | exact HB.out))⟩)
                      rintro ⟨v205, v208⟩ w28 ⟨hS_, h0_, h1_, h2_, h3_, h4_⟩
                      have n0_ : Aside0 (Kd.R k23 23 w28 w.heap.size (fun k_ => some k_ ≠ (v208 : Value).ownBlock ∧ k_ ≠ gb199 ∧ k_ ≠ gb200) v205 y204) := ⟨h0_⟩
                      have n1_ : Aside0 (Kd.R k23 23 w28 w.heap.size (fun k_ => some k_ ≠ (v205 : Value).ownBlock ∧ k_ ≠ gb199 ∧ k_ ≠ gb200) v208 y207) := ⟨h1_⟩
                      have n2_ : Aside0 (w28.heap[gb199]? = some (.cells #[.int .i64 a0_0, .int .i64 a0_1, .int .i64 a0_2, .int .i64 a0_3, .int .i64 a0_4, .string a0_5] 23 (0, 0))) := ⟨h2_⟩
                      have n3_ : Aside0 (w28.heap[gb200]? = some (.cells #[.int .i64 a2_0, .int .i64 a2_1, .int .i64 a2_2, .int .i64 a2_3, .int .i64 a2_4, .string a2_5] 23 (0, 0))) := ⟨h3_⟩
                      have n4_ : Aside0 (Below w.heap.size w w28) := ⟨h4_⟩
                      clear BK199
                      clear BK200
                      clear HB
                      clear h0_ h1_ h2_ h3_ h4_
                      have HO206 := n0_
                      have HO209 := n1_
                      have BK199 := n2_
                      have BK200 := n3_
                      have HB := n4_
                      clear n0_ n1_ n2_ n3_ n4_
                      have hHeld : w28.cell? ⟨gb200, 0, none⟩ = some (.int .i64 a2_0) ∧ w28.cell? ⟨gb200, 1, none⟩ = some (.int .i64 a2_1) ∧ w28.cell? ⟨gb200, 2, none⟩ = some (.int .i64 a2_2) ∧ w28.cell? ⟨gb200, 3, none⟩ = some (.int .i64 a2_3) ∧ w28.cell? ⟨gb200, 4, none⟩ = some (.int .i64 a2_4) ∧ w28.cell? ⟨gb200, 5, none⟩ = some (.string a2_5) := hS_
                      obtain ⟨Ao30, co30, eo30⟩ := Kd.R_slice HO209.out
                      (first | subst eo30 | (injection eo30 with f1_ f2_ f3_; have f4_ := f1_.symm; have f5_ := f3_.symm; clear f1_ f2_ f3_; subst f4_; subst f5_))
                      refine norm_ (a' := ?_) ?_ ?_
                      rotate_left
                      · simp only [putAll, Act.put, List.setIfInBounds_toArray, List.set_cons_zero, List.set_cons_succ]
                        rfl
                      refine one_ (i := 4) (N := some 39) #[true, true, true, true, true, false] rfl rfl (by kernel_rfl) (by decide) (fun K hK => ?_)
                      refine Kd.R_append_rows_step k23 (w0 := w) w.heap.size (by rfl) (.tmp 36) (.tmp 38) 33 23 (.agg #[(.int .i64 0), (.int .i64 0), (.int .i64 0), (.int .i64 0), (.int .i64 0), (.string ⟨#[]⟩)]) 56 rfl Try.underlying33 info23 rfl (by decide) (by omega) v205 y204 y207 _ _ _ (fun k_ => some k_ ≠ (.slice Ao30 y207.length co30 : Value).ownBlock ∧ k_ ≠ gb199 ∧ k_ ≠ gb200) (fun _ => False) rfl rfl ?aO ?aR (fun _ _ h => h) (fun _ h => h.elim) ?aF ?aB ?aS ?aL ?_
                      (case aR => repeat (first | exact (Kd.R_reads' HO209.out).2.2 | (with_reducible refine Kd.C_alloc ?_ _) | (with_reducible refine Kd.C_drewN ?_ _) | (with_reducible refine Kd.C_drew ?_)))
                      (case aB => exact (by repeat (first | (with_reducible first | exact HB.out | apply below_alloc | apply pw_below_drewN | apply below_drew1 | refine below_set ?_ GE199.out | refine below_set ?_ GE200.out) | exact HB.out)))
                      (case aF => exact (fun k_ hk => ⟨Kd.fresh' (Kd.R_lt (by (with_reducible repeat (first | apply Kd.R_alloc | apply Kd.R_drewN | apply Kd.R_drew)); exact HO209.out)) k_ hk, Kd.freshB (g := gb199) (o := .cells #[.int .i64 a0_0, .int .i64 a0_1, .int .i64 a0_2, .int .i64 a0_3, .int .i64 a0_4, .string a0_5] 23 (0, 0)) (by (with_reducible repeat (first | refine blk_drewN ?_ _ | refine blk_drew ?_ | refine blk_alloc ?_ _)); exact BK199.out) k_ hk, Kd.freshB (g := gb200) (o := .cells #[.int .i64 a2_0, .int .i64 a2_1, .int .i64 a2_2, .int .i64 a2_3, .int .i64 a2_4, .string a2_5] 23 (0, 0)) (by (with_reducible repeat (first | refine blk_drewN ?_ _ | refine blk_drew ?_ | refine blk_alloc ?_ _)); exact BK200.out) k_ hk⟩))
                      (case aO => exact (by (with_reducible repeat (first | apply Kd.R_alloc | apply Kd.R_drewN | apply Kd.R_drew)); exact HO206.out))
                      (case aS => exact (below_size (by repeat (first | (with_reducible first | exact HB.out | apply below_alloc | apply pw_below_drewN | apply below_drew1 | refine below_set ?_ GE199.out | refine below_set ?_ GE200.out) | exact HB.out))))
                      (case aL => have := LMc19.out; omega)
                      intro v211 w29 ho hb hg hat
                      rw [← Ny210.out] at ho
                      have n0_ := Aside0.mk (blk_grown (g := gb199) (o := .cells #[.int .i64 a0_0, .int .i64 a0_1, .int .i64 a0_2, .int .i64 a0_3, .int .i64 a0_4, .string a0_5] 23 (0, 0)) (by (with_reducible repeat (first | refine blk_drewN ?_ _ | refine blk_drew ?_ | refine blk_alloc ?_ _)); exact BK199.out) hg (Kd.R_away HO206.out (fun _ hk => hk.2.1)))
                      have n1_ := Aside0.mk (blk_grown (g := gb200) (o := .cells #[.int .i64 a2_0, .int .i64 a2_1, .int .i64 a2_2, .int .i64 a2_3, .int .i64 a2_4, .string a2_5] 23 (0, 0)) (by (with_reducible repeat (first | refine blk_drewN ?_ _ | refine blk_drew ?_ | refine blk_alloc ?_ _)); exact BK200.out) hg (Kd.R_away HO206.out (fun _ hk => hk.2.2)))
                      have n2_ := Aside0.mk (Kd.R_after (ok := (fun k_ => k_ ≠ gb199 ∧ k_ ≠ gb200)) (by (with_reducible repeat (first | apply Kd.R_alloc | apply Kd.R_drewN | apply Kd.R_drew)); exact Kd.R_mono HO209.out (fun _ hk => ⟨⟨hk.2.1, hk.2.2⟩, hk.1⟩)) hg hat)
                      have n3_ := Aside0.mk (hb)
                      have n4_ := Aside0.mk (ho)
                      clear BK199
                      clear BK200
                      clear HO209
                      clear HB
                      clear HO206
                      have BK199 := n0_
                      have BK200 := n1_
                      have HO209 := n2_
                      have HB := n3_
                      have HO212 := n4_
                      clear n0_ n1_ n2_ n3_ n4_
                      clear ho hb hg hat
                      refine hK.out _ _ ⟨(blk_cell BK200.out 0).trans rfl, (blk_cell BK200.out 1).trans rfl, (blk_cell BK200.out 2).trans rfl, (blk_cell BK200.out 3).trans rfl, (blk_cell BK200.out 4).trans rfl, (blk_cell BK200.out 5).trans rfl⟩ (fun hHeld => ?_)
                      clear hK K
                      refine norm_ (a' := ?_) ?_ ?_
                      rotate_left
                      · show Act.put _ (some 39) _ = _
                        simp only [Act.put, List.setIfInBounds_toArray, List.set_cons_zero, List.set_cons_succ, i64_w, i32_w]
                        rfl
                      refine pure_ (i := 5) (N := some 10) (v := ?_) (a' := ?_) #[true, true, true, true, true, true] rfl rfl (by kernel_rfl) (fun _ _ _ h => h) (Or.inl ⟨by rfl, ?_⟩) ?_ ?_
                      rotate_left
                      · intro w'
                        go_simp
                        with_reducible rfl
                      rotate_left
                      · simp only [Act.put, List.setIfInBounds_toArray, List.set_cons_zero, List.set_cons_succ, i64_w, i32_w]
                        rfl
                      refine done_ (by kernel_rfl) ?_
                      have hnb31 := NB199_200.out
                      have hnc31 := NB200_199.out
                      have hcz32_0 : w29.cell? ⟨gb199, 0, none⟩ = some (.int .i64 a0_0) := (blk_cell BK199.out 0).trans rfl
                      have hcz32_1 : w29.cell? ⟨gb199, 1, none⟩ = some (.int .i64 a0_1) := (blk_cell BK199.out 1).trans rfl
                      have hcz32_2 : w29.cell? ⟨gb199, 2, none⟩ = some (.int .i64 a0_2) := (blk_cell BK199.out 2).trans rfl
                      have hcz32_3 : w29.cell? ⟨gb199, 3, none⟩ = some (.int .i64 a0_3) := (blk_cell BK199.out 3).trans rfl
                      have hcz32_4 : w29.cell? ⟨gb199, 4, none⟩ = some (.int .i64 a0_4) := (blk_cell BK199.out 4).trans rfl
                      have hcz32_5 : w29.cell? ⟨gb199, 5, none⟩ = some (.string a0_5) := (blk_cell BK199.out 5).trans rfl
                      have hfz32_0 := blk_frozen BK199.out 0
                      have hfz32_1 := blk_frozen BK199.out 1
                      have hfz32_2 := blk_frozen BK199.out 2
                      have hfz32_3 := blk_frozen BK199.out 3
                      have hfz32_4 := blk_frozen BK199.out 4
                      have hfz32_5 := blk_frozen BK199.out 5
                      try go_wp2_with (first | ((with_reducible refine gate_callee (f := 16) rfl ?_); refine goesL_ (some 42) rfl rfl Try.func16 (by kernel_rfl) rfl #[.agg #[.int .i64 a0_0, .int .i64 a0_1, .int .i64 a0_2, .int .i64 a0_3, .int .i64 a0_4, .string a0_5], .slice A1 l1.length c1] rfl (by (try simp only [List.map_toArray, List.map_cons, List.map_nil]); first | done | rfl | (simp only [List.length_drop, List.length_take]; rfl)) ?_; (with_reducible refine (keys_Any.calls a0_0 a0_1 a0_2 a0_3 a0_4 a0_5 _ _ l1 t213 _ ?side1 ?side2 A20.out).mono ?_); (case side1 => repeat (first | exact (Kd.C_below HR1.out HB.out) | (with_reducible refine Kd.C_alloc ?_ _) | (with_reducible refine Kd.C_drewN ?_ _) | (with_reducible refine Kd.C_drew ?_))); (case side2 => exact HC1.out); rintro e w33 ⟨rfl, hb⟩; refine ⟨_, rfl, ?_⟩; have n0_ := Aside0.mk (Kd.R_below (by (with_reducible repeat (first | apply Kd.R_alloc | apply Kd.R_drewN | apply Kd.R_drew)); exact HO209.out) hb); have n1_ := Aside0.mk (Kd.R_below (by (with_reducible repeat (first | apply Kd.R_alloc | apply Kd.R_drewN | apply Kd.R_drew)); exact HO212.out) hb); have n2_ := Aside0.mk (blk_below (g := gb199) (o := .cells #[.int .i64 a0_0, .int .i64 a0_1, .int .i64 a0_2, .int .i64 a0_3, .int .i64 a0_4, .string a0_5] 23 (0, 0)) (by (with_reducible repeat (first | refine blk_drewN ?_ _ | refine blk_drew ?_ | refine blk_alloc ?_ _)); exact BK199.out) hb); have n3_ := Aside0.mk (blk_below (g := gb200) (o := .cells #[.int .i64 a2_0, .int .i64 a2_1, .int .i64 a2_2, .int .i64 a2_3, .int .i64 a2_4, .string a2_5] 23 (0, 0)) (by (with_reducible repeat (first | refine blk_drewN ?_ _ | refine blk_drew ?_ | refine blk_alloc ?_ _)); exact BK200.out) hb); have n4_ := Aside0.mk (below_step (by repeat (first | (with_reducible first | exact HB.out | apply below_alloc | apply pw_below_drewN | apply below_drew1 | refine below_set ?_ GE199.out | refine below_set ?_ GE200.out) | exact HB.out)) hb); clear HO209; clear HO212; clear BK199; clear BK200; clear HB; have HO209 := n0_; have HO212 := n1_; have BK199 := n2_; have BK200 := n3_; have HB := n4_; clear n0_ n1_ n2_ n3_ n4_; (try clear hb); (try clear hb2); (try clear hk); (try clear hi); have hcz34_0 : w33.cell? ⟨gb199, 0, none⟩ = some (.int .i64 a0_0) := (blk_cell BK199.out 0).trans rfl; have hcz34_1 : w33.cell? ⟨gb199, 1, none⟩ = some (.int .i64 a0_1) := (blk_cell BK199.out 1).trans rfl; have hcz34_2 : w33.cell? ⟨gb199, 2, none⟩ = some (.int .i64 a0_2) := (blk_cell BK199.out 2).trans rfl; have hcz34_3 : w33.cell? ⟨gb199, 3, none⟩ = some (.int .i64 a0_3) := (blk_cell BK199.out 3).trans rfl; have hcz34_4 : w33.cell? ⟨gb199, 4, none⟩ = some (.int .i64 a0_4) := (blk_cell BK199.out 4).trans rfl; have hcz34_5 : w33.cell? ⟨gb199, 5, none⟩ = some (.string a0_5) := (blk_cell BK199.out 5).trans rfl; have hfz34_0 := blk_frozen BK199.out 0; have hfz34_1 := blk_frozen BK199.out 1; have hfz34_2 := blk_frozen BK199.out 2; have hfz34_3 := blk_frozen BK199.out 3; have hfz34_4 := blk_frozen BK199.out 4; have hfz34_5 := blk_frozen BK199.out 5; obtain ⟨Ao35, co35, eo35⟩ := Kd.R_slice HO212.out; subst eo35) | (go_at_call 16; (with_reducible refine (keys_Any.calls a0_0 a0_1 a0_2 a0_3 a0_4 a0_5 _ _ y210 t214 _ ?side1 ?side2 A22.out).mono ?_); (case side1 => repeat (first | exact (Kd.R_reads' HO212.out).2.2 | (with_reducible refine Kd.C_alloc ?_ _) | (with_reducible refine Kd.C_drewN ?_ _) | (with_reducible refine Kd.C_drew ?_))); (case side2 => exact (Kd.R_reads' HO212.out).2.1); rintro e w36 ⟨rfl, hb⟩; have n0_ := Aside0.mk (Kd.R_below (by (with_reducible repeat (first | apply Kd.R_alloc | apply Kd.R_drewN | apply Kd.R_drew)); exact HO209.out) hb); have n1_ := Aside0.mk (Kd.R_below (by (with_reducible repeat (first | apply Kd.R_alloc | apply Kd.R_drewN | apply Kd.R_drew)); exact HO212.out) hb); have n2_ := Aside0.mk (blk_below (g := gb199) (o := .cells #[.int .i64 a0_0, .int .i64 a0_1, .int .i64 a0_2, .int .i64 a0_3, .int .i64 a0_4, .string a0_5] 23 (0, 0)) (by (with_reducible repeat (first | refine blk_drewN ?_ _ | refine blk_drew ?_ | refine blk_alloc ?_ _)); exact BK199.out) hb); have n3_ := Aside0.mk (blk_below (g := gb200) (o := .cells #[.int .i64 a2_0, .int .i64 a2_1, .int .i64 a2_2, .int .i64 a2_3, .int .i64 a2_4, .string a2_5] 23 (0, 0)) (by (with_reducible repeat (first | refine blk_drewN ?_ _ | refine blk_drew ?_ | refine blk_alloc ?_ _)); exact BK200.out) hb); have n4_ := Aside0.mk (below_step (by repeat (first | (with_reducible first | exact HB.out | apply below_alloc | apply pw_below_drewN | apply below_drew1 | refine below_set ?_ GE199.out | refine below_set ?_ GE200.out) | exact HB.out)) hb); clear HO209; clear HO212; clear BK199; clear BK200; clear HB; have HO209 := n0_; have HO212 := n1_; have BK199 := n2_; have BK200 := n3_; have HB := n4_; clear n0_ n1_ n2_ n3_ n4_; (try clear hb); (try clear hb2); (try clear hk); (try clear hi)))
                      go_ret
                      exact ⟨by first | rfl | (simp [errW_none, errW_some] <;> rfl) | (simp [*, errW_none, errW_some] <;> rfl), by repeat (first | (with_reducible first | exact HB.out | apply below_alloc | apply pw_below_drewN | apply below_drew1 | refine below_set ?_ GE199.out | refine below_set ?_ GE200.out) | exact HB.out)⟩
                    · replace c23 := Bool.eq_false_iff.mpr c23
                      subst c23
                      have H1 : ((keys_Interfere.f a0_0 a0_1 a0_2 a0_3 a0_4 a0_5 a2_0 a2_1 a2_2 a2_3 a2_4 a2_5).bind fun t215 => (some (t214 == t215))) = some r := by rw [if_neg (show ¬ (false = true) by decide)] at H; exact H
                      clear H
                      have H := H1
                      clear H1
                      replace H := Option.bind_eq_some_iff.mp H
                      obtain ⟨t215, A370, H⟩ := H
                      replace H : (some (t214 == t215)) = some r := H
                      have A37 := Aside0.mk A370
                      clear A370
                      obtain rfl := Option.some.inj H
                      try go_wp2
                      have n0_ := Aside0.mk (blk_drew BK199.out)
                      have n1_ := Aside0.mk (blk_drew BK200.out)
                      have n2_ := Aside0.mk (below_drew1 HB.out)
                      clear BK199
                      clear BK200
                      clear HB
                      have BK199 := n0_
                      have BK200 := n1_
                      have HB := n2_
                      clear n0_ n1_ n2_
                      refine start_ (n := 6) (S := fun w' => w'.cell? ⟨gb200, 0, none⟩ = some (.int .i64 a2_0) ∧ w'.cell? ⟨gb200, 1, none⟩ = some (.int .i64 a2_1) ∧ w'.cell? ⟨gb200, 2, none⟩ = some (.int .i64 a2_2) ∧ w'.cell? ⟨gb200, 3, none⟩ = some (.int .i64 a2_3) ∧ w'.cell? ⟨gb200, 4, none⟩ = some (.int .i64 a2_4) ∧ w'.cell? ⟨gb200, 5, none⟩ = some (.string a2_5)) (ds := []) #[false, false, false, false, false, false] (by kernel_rfl) rfl rfl ⟨(blk_cell BK200.out 0).trans rfl, (blk_cell BK200.out 1).trans rfl, (blk_cell BK200.out 2).trans rfl, (blk_cell BK200.out 3).trans rfl, (blk_cell BK200.out 4).trans rfl, (blk_cell BK200.out 5).trans rfl⟩ (fun hHeld => ?_)
                      generalize wr.drew = w38 at BK199 BK200 HB hHeld ⊢
                      refine pure_ (i := 0) (N := some 35) (v := ?_) (a' := ?_) #[true, false, false, false, false, false] rfl rfl (by kernel_rfl) (fun _ _ _ h => h) (Or.inl ⟨by rfl, ?_⟩) ?_ ?_
                      rotate_left
                      · intro w'
                        go_simp
                        with_reducible rfl
                      rotate_left
                      · simp only [Act.put, List.setIfInBounds_toArray, List.set_cons_zero, List.set_cons_succ, i64_w, i32_w]
                        rfl
                      refine take_ (i := 2) (N := some 37) (v := ?_) (a' := ?_) #[true, false, true, false, false, false] rfl rfl (by kernel_rfl) (fun _ _ _ h => h) (Or.inl ⟨by rfl, ?_⟩) hHeld ?_ ?_
                      rotate_left
                      · rintro w' ⟨s0, s1, s2, s3, s4, s5⟩
                        go_simp
                        with_reducible rfl
                      rotate_left
                      · simp only [Act.put, List.setIfInBounds_toArray, List.set_cons_zero, List.set_cons_succ, i64_w, i32_w]
                        rfl
                      refine join_ (σ := Value × Value) 2 #[true, true, true, true, false, false] (fun s_ => [(36, s_.1), (38, s_.2)]) (fun s_ w' => (w'.cell? ⟨gb200, 0, none⟩ = some (.int .i64 a2_0) ∧ w'.cell? ⟨gb200, 1, none⟩ = some (.int .i64 a2_1) ∧ w'.cell? ⟨gb200, 2, none⟩ = some (.int .i64 a2_2) ∧ w'.cell? ⟨gb200, 3, none⟩ = some (.int .i64 a2_3) ∧ w'.cell? ⟨gb200, 4, none⟩ = some (.int .i64 a2_4) ∧ w'.cell? ⟨gb200, 5, none⟩ = some (.string a2_5)) ∧ (Kd.R k23 23 w' w.heap.size (fun k_ => some k_ ≠ (s_.2 : Value).ownBlock ∧ k_ ≠ gb199 ∧ k_ ≠ gb200) s_.1 y204) ∧ (Kd.R k23 23 w' w.heap.size (fun k_ => some k_ ≠ (s_.1 : Value).ownBlock ∧ k_ ≠ gb199 ∧ k_ ≠ gb200) s_.2 y207) ∧ (w'.heap[gb199]? = some (.cells #[.int .i64 a0_0, .int .i64 a0_1, .int .i64 a0_2, .int .i64 a0_3, .int .i64 a0_4, .string a0_5] 23 (0, 0))) ∧ (w'.heap[gb200]? = some (.cells #[.int .i64 a2_0, .int .i64 a2_1, .int .i64 a2_2, .int .i64 a2_3, .int .i64 a2_4, .string a2_5] 23 (0, 0))) ∧ (Below w.heap.size w w')) ?_ ?_
                      rotate_left
                      · intro hCont
                        refine two_ (i := 1) (j := 3) (Ni := some 36) (Nj := some 38) #[true, true, true, false, false, false] #[true, false, true, true, false, false] rfl rfl rfl rfl (by kernel_rfl) (by decide) (by decide) (fun K hK => ?_) (fun K hK => ?_)
                        · skip
                          refine Kd.R_append_rows_step k23 (w0 := w) w.heap.size (by rfl) (.const (.slice none 0 0)) (.tmp 35) 33 23 (.agg #[(.int .i64 0), (.int .i64 0), (.int .i64 0), (.int .i64 0), (.int .i64 0), (.string ⟨#[]⟩)]) 56 rfl Try.underlying33 info23 rfl (by decide) (by omega) (.slice none 0 0) ([] : List (S23)) l1 _ _ _ (fun k_ => k_ ≠ gb199 ∧ k_ ≠ gb200) (fun _ => False) rfl rfl ?aO ?aR (fun _ _ h => h) (fun _ h => h.elim) ?aF ?aB ?aS ?aL ?_
                          (case aR => repeat (first | exact (Kd.C_below HR1.out HB.out) | (with_reducible refine Kd.C_alloc ?_ _) | (with_reducible refine Kd.C_drewN ?_ _) | (with_reducible refine Kd.C_drew ?_)))
                          (case aB => exact (by repeat (first | (with_reducible first | exact HB.out | apply below_alloc | apply pw_below_drewN | apply below_drew1 | refine below_set ?_ GE199.out | refine below_set ?_ GE200.out) | exact HB.out)))
                          (case aF => exact (fun k_ hk => ⟨Kd.freshB (g := gb199) (o := .cells #[.int .i64 a0_0, .int .i64 a0_1, .int .i64 a0_2, .int .i64 a0_3, .int .i64 a0_4, .string a0_5] 23 (0, 0)) (by (with_reducible repeat (first | refine blk_drewN ?_ _ | refine blk_drew ?_ | refine blk_alloc ?_ _)); exact BK199.out) k_ hk, Kd.freshB (g := gb200) (o := .cells #[.int .i64 a2_0, .int .i64 a2_1, .int .i64 a2_2, .int .i64 a2_3, .int .i64 a2_4, .string a2_5] 23 (0, 0)) (by (with_reducible repeat (first | refine blk_drewN ?_ _ | refine blk_drew ?_ | refine blk_alloc ?_ _)); exact BK200.out) k_ hk⟩))
                          (case aO => exact ((Kd.R_nil _ _ _ _ (fun k_ => k_ ≠ gb199 ∧ k_ ≠ gb200))))
                          (case aS => exact (below_size (by repeat (first | (with_reducible first | exact HB.out | apply below_alloc | apply pw_below_drewN | apply below_drew1 | refine below_set ?_ GE199.out | refine below_set ?_ GE200.out) | exact HB.out))))
                          (case aL => have := LMc18.out; omega)
                          intro v205 w39 ho hb hg hat
                          rw [← Ny204.out] at ho
                          have n0_ := Aside0.mk (blk_grown (g := gb199) (o := .cells #[.int .i64 a0_0, .int .i64 a0_1, .int .i64 a0_2, .int .i64 a0_3, .int .i64 a0_4, .string a0_5] 23 (0, 0)) (by (with_reducible repeat (first | refine blk_drewN ?_ _ | refine blk_drew ?_ | refine blk_alloc ?_ _)); exact BK199.out) hg (by simp [Value.ownBlock]))
                          have n1_ := Aside0.mk (blk_grown (g := gb200) (o := .cells #[.int .i64 a2_0, .int .i64 a2_1, .int .i64 a2_2, .int .i64 a2_3, .int .i64 a2_4, .string a2_5] 23 (0, 0)) (by (with_reducible repeat (first | refine blk_drewN ?_ _ | refine blk_drew ?_ | refine blk_alloc ?_ _)); exact BK200.out) hg (by simp [Value.ownBlock]))
                          have n2_ := Aside0.mk (hb)
                          have n3_ := Aside0.mk (ho)
                          clear BK199
                          clear BK200
                          clear HB
                          have BK199 := n0_
                          have BK200 := n1_
                          have HB := n2_
                          have HO206 := n3_
                          clear n0_ n1_ n2_ n3_
                          clear ho hb hg hat
                          refine hK.out _ _ ⟨(blk_cell BK200.out 0).trans rfl, (blk_cell BK200.out 1).trans rfl, (blk_cell BK200.out 2).trans rfl, (blk_cell BK200.out 3).trans rfl, (blk_cell BK200.out 4).trans rfl, (blk_cell BK200.out 5).trans rfl⟩ (fun hHeld => ?_)
                          clear hK K
                          refine norm_ (a' := ?_) ?_ ?_
                          rotate_left
                          · show Act.put _ (some 36) _ = _
                            simp only [Act.put, List.setIfInBounds_toArray, List.set_cons_zero, List.set_cons_succ, i64_w, i32_w]
                            rfl
                          refine one_ (i := 3) (N := some 38) #[true, true, true, true, false, false] rfl rfl (by kernel_rfl) (by decide) (fun K hK => ?_)
                          refine Kd.R_lit_step k23 _ 23 ?hg (N := 38) ?hd (xs := ([(⟨a2_0, a2_1, a2_2, a2_3, a2_4, a2_5⟩ : S23)] : List (S23))) (inner := [.int .i64 a2_0, .int .i64 a2_1, .int .i64 a2_2, .int .i64 a2_3, .int .i64 a2_4, .string a2_5]) (ok := fun _ => True) (okp := fun _ => True) ?hr ?hp (fun _ hk => hk) trivial (Below.refl _ _) (Nat.le_refl _) (by simp) ?_; (case hd => rfl); (case hg => rfl); (case hr => first | (go_simp; done) | (go_simp; rfl)); (case hp => exact (Reps.c6 (show Kd.M k23 _ _ _ (⟨a2_0, a2_1, a2_2, a2_3, a2_4, a2_5⟩ : S23) [.int .i64 a2_0, .int .i64 a2_1, .int .i64 a2_2, .int .i64 a2_3, .int .i64 a2_4, .string a2_5] from (k23_mkM _ _ _ (⟨a2_0, a2_1, a2_2, a2_3, a2_4, a2_5⟩ : S23) )) (Reps.none _ _)))
                          intro v208 w40 ho41 hb hg_ hnew_
                          clear hg_ hnew_
                          (first | rw [← Ny207.out] at ho41 | (simp only [Int.reduceToNat] at ho41; rw [← Ny207.out] at ho41))
                          have n0_ := Aside0.mk (Kd.R_elder' (by (with_reducible repeat (first | apply Kd.R_alloc | apply Kd.R_drewN | apply Kd.R_drew)); exact HO206.out) (Kd.R_base ho41) hb)
                          have n1_ := Aside0.mk (Kd.R_lower (Kd.R_newB (Kd.R_newB (Kd.R_new' ho41 (Kd.R_lt (by (with_reducible repeat (first | apply Kd.R_alloc | apply Kd.R_drewN | apply Kd.R_drew)); exact HO206.out))) (g := gb199) (o := .cells #[.int .i64 a0_0, .int .i64 a0_1, .int .i64 a0_2, .int .i64 a0_3, .int .i64 a0_4, .string a0_5] 23 (0, 0)) (by (with_reducible repeat (first | refine blk_drewN ?_ _ | refine blk_drew ?_ | refine blk_alloc ?_ _)); exact BK199.out)) (g := gb200) (o := .cells #[.int .i64 a2_0, .int .i64 a2_1, .int .i64 a2_2, .int .i64 a2_3, .int .i64 a2_4, .string a2_5] 23 (0, 0)) (by (with_reducible repeat (first | refine blk_drewN ?_ _ | refine blk_drew ?_ | refine blk_alloc ?_ _)); exact BK200.out)) (below_size (by repeat (first | (with_reducible first | exact HB.out | apply below_alloc | apply pw_below_drewN | apply below_drew1 | refine below_set ?_ GE199.out | refine below_set ?_ GE200.out) | exact HB.out))))
                          have n2_ := Aside0.mk (blk_below (g := gb199) (o := .cells #[.int .i64 a0_0, .int .i64 a0_1, .int .i64 a0_2, .int .i64 a0_3, .int .i64 a0_4, .string a0_5] 23 (0, 0)) (by (with_reducible repeat (first | refine blk_drewN ?_ _ | refine blk_drew ?_ | refine blk_alloc ?_ _)); exact BK199.out) hb)
                          have n3_ := Aside0.mk (blk_below (g := gb200) (o := .cells #[.int .i64 a2_0, .int .i64 a2_1, .int .i64 a2_2, .int .i64 a2_3, .int .i64 a2_4, .string a2_5] 23 (0, 0)) (by (with_reducible repeat (first | refine blk_drewN ?_ _ | refine blk_drew ?_ | refine blk_alloc ?_ _)); exact BK200.out) hb)
                          have n4_ := Aside0.mk (below_step (by repeat (first | (with_reducible first | exact HB.out | apply below_alloc | apply pw_below_drewN | apply below_drew1 | refine below_set ?_ GE199.out | refine below_set ?_ GE200.out) | exact HB.out)) hb)
                          clear HO206
                          clear BK199
                          clear BK200
                          clear HB
                          have HO206 := n0_
                          have HO209 := n1_
                          have BK199 := n2_
                          have BK200 := n3_
                          have HB := n4_
                          clear n0_ n1_ n2_ n3_ n4_
                          clear hb ho41
                          refine hK.out _ _ ⟨(blk_cell BK200.out 0).trans rfl, (blk_cell BK200.out 1).trans rfl, (blk_cell BK200.out 2).trans rfl, (blk_cell BK200.out 3).trans rfl, (blk_cell BK200.out 4).trans rfl, (blk_cell BK200.out 5).trans rfl⟩ (fun hHeld => ?_)
                          clear hK K
                          refine norm_ (a' := ?_) ?_ ?_
                          rotate_left
                          · show Act.put _ (some 38) _ = _
                            simp only [Act.put, List.setIfInBounds_toArray, List.set_cons_zero, List.set_cons_succ, i64_w, i32_w]
                            rfl
                          exact norm_ (by simp only [putAll, Act.put, List.setIfInBounds_toArray, List.set_cons_zero, List.set_cons_succ]) (hCont (v205, v208) _ ⟨hHeld, (by (with_reducible repeat (first | apply Kd.R_alloc | apply Kd.R_drewN | apply Kd.R_drew)); exact Kd.R_mono HO206.out (fun _ hk => ⟨hk.2, ⟨hk.1.1, hk.1.2⟩⟩)), (by (with_reducible repeat (first | apply Kd.R_alloc | apply Kd.R_drewN | apply Kd.R_drew)); exact Kd.R_mono HO209.out (fun _ hk => ⟨hk.1.1.2, ⟨hk.1.2, hk.2⟩⟩)), (by (with_reducible repeat (first | refine blk_drewN ?_ _ | refine blk_drew ?_ | refine blk_alloc ?_ _)); exact BK199.out), (by (with_reducible repeat (first | refine blk_drewN ?_ _ | refine blk_drew ?_ | refine blk_alloc ?_ _)); exact BK200.out), (by repeat (first | (with_reducible first | exact HB.out | apply below_alloc | apply pw_below_drewN | apply below_drew1 | refine below_set ?_ GE199.out | refine below_set ?_ GE200.out) | exact HB.out))⟩)
                        · skip
                          refine Kd.R_lit_step k23 _ 23 ?hg (N := 38) ?hd (xs := ([(⟨a2_0, a2_1, a2_2, a2_3, a2_4, a2_5⟩ : S23)] : List (S23))) (inner := [.int .i64 a2_0, .int .i64 a2_1, .int .i64 a2_2, .int .i64 a2_3, .int .i64 a2_4, .string a2_5]) (ok := fun _ => True) (okp := fun _ => True) ?hr ?hp (fun _ hk => hk) trivial (Below.refl _ _) (Nat.le_refl _) (by simp) ?_; (case hd => rfl); (case hg => rfl); (case hr => first | (go_simp; done) | (go_simp; rfl)); (case hp => exact (Reps.c6 (show Kd.M k23 _ _ _ (⟨a2_0, a2_1, a2_2, a2_3, a2_4, a2_5⟩ : S23) [.int .i64 a2_0, .int .i64 a2_1, .int .i64 a2_2, .int .i64 a2_3, .int .i64 a2_4, .string a2_5] from (k23_mkM _ _ _ (⟨a2_0, a2_1, a2_2, a2_3, a2_4, a2_5⟩ : S23) )) (Reps.none _ _)))
                          intro v208 w39 ho40 hb hg_ hnew_
                          clear hg_ hnew_
                          (first | rw [← Ny207.out] at ho40 | (simp only [Int.reduceToNat] at ho40; rw [← Ny207.out] at ho40))
                          have n0_ := Aside0.mk (Kd.R_lower (Kd.R_newB (Kd.R_newB ho40 (g := gb199) (o := .cells #[.int .i64 a0_0, .int .i64 a0_1, .int .i64 a0_2, .int .i64 a0_3, .int .i64 a0_4, .string a0_5] 23 (0, 0)) (by (with_reducible repeat (first | refine blk_drewN ?_ _ | refine blk_drew ?_ | refine blk_alloc ?_ _)); exact BK199.out)) (g := gb200) (o := .cells #[.int .i64 a2_0, .int .i64 a2_1, .int .i64 a2_2, .int .i64 a2_3, .int .i64 a2_4, .string a2_5] 23 (0, 0)) (by (with_reducible repeat (first | refine blk_drewN ?_ _ | refine blk_drew ?_ | refine blk_alloc ?_ _)); exact BK200.out)) (below_size (by repeat (first | (with_reducible first | exact HB.out | apply below_alloc | apply pw_below_drewN | apply below_drew1 | refine below_set ?_ GE199.out | refine below_set ?_ GE200.out) | exact HB.out))))
                          have n1_ := Aside0.mk (blk_below (g := gb199) (o := .cells #[.int .i64 a0_0, .int .i64 a0_1, .int .i64 a0_2, .int .i64 a0_3, .int .i64 a0_4, .string a0_5] 23 (0, 0)) (by (with_reducible repeat (first | refine blk_drewN ?_ _ | refine blk_drew ?_ | refine blk_alloc ?_ _)); exact BK199.out) hb)
                          have n2_ := Aside0.mk (blk_below (g := gb200) (o := .cells #[.int .i64 a2_0, .int .i64 a2_1, .int .i64 a2_2, .int .i64 a2_3, .int .i64 a2_4, .string a2_5] 23 (0, 0)) (by (with_reducible repeat (first | refine blk_drewN ?_ _ | refine blk_drew ?_ | refine blk_alloc ?_ _)); exact BK200.out) hb)
                          have n3_ := Aside0.mk (below_step (by repeat (first | (with_reducible first | exact HB.out | apply below_alloc | apply pw_below_drewN | apply below_drew1 | refine below_set ?_ GE199.out | refine below_set ?_ GE200.out) | exact HB.out)) hb)
                          clear BK199
                          clear BK200
                          clear HB
                          have HO209 := n0_
                          have BK199 := n1_
                          have BK200 := n2_
                          have HB := n3_
                          clear n0_ n1_ n2_ n3_
                          clear hb ho40
                          refine hK.out _ _ ⟨(blk_cell BK200.out 0).trans rfl, (blk_cell BK200.out 1).trans rfl, (blk_cell BK200.out 2).trans rfl, (blk_cell BK200.out 3).trans rfl, (blk_cell BK200.out 4).trans rfl, (blk_cell BK200.out 5).trans rfl⟩ (fun hHeld => ?_)
                          clear hK K
                          refine norm_ (a' := ?_) ?_ ?_
                          rotate_left
                          · show Act.put _ (some 38) _ = _
                            simp only [Act.put, List.setIfInBounds_toArray, List.set_cons_zero, List.set_cons_succ, i64_w, i32_w]
                            rfl
                          refine one_ (i := 1) (N := some 36) #[true, true, true, true, false, false] rfl rfl (by kernel_rfl) (by decide) (fun K hK => ?_)
                          refine Kd.R_append_rows_step k23 (w0 := w) w.heap.size (by rfl) (.const (.slice none 0 0)) (.tmp 35) 33 23 (.agg #[(.int .i64 0), (.int .i64 0), (.int .i64 0), (.int .i64 0), (.int .i64 0), (.string ⟨#[]⟩)]) 56 rfl Try.underlying33 info23 rfl (by decide) (by omega) (.slice none 0 0) ([] : List (S23)) l1 _ _ _ (fun k_ => some k_ ≠ (v208 : Value).ownBlock ∧ k_ ≠ gb199 ∧ k_ ≠ gb200) (fun _ => False) rfl rfl ?aO ?aR (fun _ _ h => h) (fun _ h => h.elim) ?aF ?aB ?aS ?aL ?_
                          (case aR => repeat (first | exact (Kd.C_below HR1.out HB.out) | (with_reducible refine Kd.C_alloc ?_ _) | (with_reducible refine Kd.C_drewN ?_ _) | (with_reducible refine Kd.C_drew ?_)))
                          (case aB => exact (by repeat (first | (with_reducible first | exact HB.out | apply below_alloc | apply pw_below_drewN | apply below_drew1 | refine below_set ?_ GE199.out | refine below_set ?_ GE200.out) | exact HB.out)))
                          (case aF => exact (fun k_ hk => ⟨Kd.fresh' (Kd.R_lt (by (with_reducible repeat (first | apply Kd.R_alloc | apply Kd.R_drewN | apply Kd.R_drew)); exact HO209.out)) k_ hk, Kd.freshB (g := gb199) (o := .cells #[.int .i64 a0_0, .int .i64 a0_1, .int .i64 a0_2, .int .i64 a0_3, .int .i64 a0_4, .string a0_5] 23 (0, 0)) (by (with_reducible repeat (first | refine blk_drewN ?_ _ | refine blk_drew ?_ | refine blk_alloc ?_ _)); exact BK199.out) k_ hk, Kd.freshB (g := gb200) (o := .cells #[.int .i64 a2_0, .int .i64 a2_1, .int .i64 a2_2, .int .i64 a2_3, .int .i64 a2_4, .string a2_5] 23 (0, 0)) (by (with_reducible repeat (first | refine blk_drewN ?_ _ | refine blk_drew ?_ | refine blk_alloc ?_ _)); exact BK200.out) k_ hk⟩))
                          (case aO => exact ((Kd.R_nil _ _ _ _ (fun k_ => some k_ ≠ (v208 : Value).ownBlock ∧ k_ ≠ gb199 ∧ k_ ≠ gb200))))
                          (case aS => exact (below_size (by repeat (first | (with_reducible first | exact HB.out | apply below_alloc | apply pw_below_drewN | apply below_drew1 | refine below_set ?_ GE199.out | refine below_set ?_ GE200.out) | exact HB.out))))
                          (case aL => have := LMc18.out; omega)
                          intro v205 w41 ho hb hg hat
                          rw [← Ny204.out] at ho
                          have n0_ := Aside0.mk (blk_grown (g := gb199) (o := .cells #[.int .i64 a0_0, .int .i64 a0_1, .int .i64 a0_2, .int .i64 a0_3, .int .i64 a0_4, .string a0_5] 23 (0, 0)) (by (with_reducible repeat (first | refine blk_drewN ?_ _ | refine blk_drew ?_ | refine blk_alloc ?_ _)); exact BK199.out) hg (by simp [Value.ownBlock]))
                          have n1_ := Aside0.mk (blk_grown (g := gb200) (o := .cells #[.int .i64 a2_0, .int .i64 a2_1, .int .i64 a2_2, .int .i64 a2_3, .int .i64 a2_4, .string a2_5] 23 (0, 0)) (by (with_reducible repeat (first | refine blk_drewN ?_ _ | refine blk_drew ?_ | refine blk_alloc ?_ _)); exact BK200.out) hg (by simp [Value.ownBlock]))
                          have n2_ := Aside0.mk (Kd.R_after (Kd.R_apart_nil (by (with_reducible repeat (first | apply Kd.R_alloc | apply Kd.R_drewN | apply Kd.R_drew)); exact HO209.out)) hg hat)
                          have n3_ := Aside0.mk (hb)
                          have n4_ := Aside0.mk (ho)
                          clear BK199
                          clear BK200
                          clear HO209
                          clear HB
                          have BK199 := n0_
                          have BK200 := n1_
                          have HO209 := n2_
                          have HB := n3_
                          have HO206 := n4_
                          clear n0_ n1_ n2_ n3_ n4_
                          clear ho hb hg hat
                          refine hK.out _ _ ⟨(blk_cell BK200.out 0).trans rfl, (blk_cell BK200.out 1).trans rfl, (blk_cell BK200.out 2).trans rfl, (blk_cell BK200.out 3).trans rfl, (blk_cell BK200.out 4).trans rfl, (blk_cell BK200.out 5).trans rfl⟩ (fun hHeld => ?_)
                          clear hK K
                          refine norm_ (a' := ?_) ?_ ?_
                          rotate_left
                          · show Act.put _ (some 36) _ = _
                            simp only [Act.put, List.setIfInBounds_toArray, List.set_cons_zero, List.set_cons_succ, i64_w, i32_w]
                            rfl
                          exact norm_ (by simp only [putAll, Act.put, List.setIfInBounds_toArray, List.set_cons_zero, List.set_cons_succ]) (hCont (v205, v208) _ ⟨hHeld, (by (with_reducible repeat (first | apply Kd.R_alloc | apply Kd.R_drewN | apply Kd.R_drew)); exact HO206.out), (by (with_reducible repeat (first | apply Kd.R_alloc | apply Kd.R_drewN | apply Kd.R_drew)); exact Kd.R_mono HO209.out (fun _ hk => ⟨hk.2, ⟨hk.1.1.2, hk.1.2⟩⟩)), (by (with_reducible repeat (first | refine blk_drewN ?_ _ | refine blk_drew ?_ | refine blk_alloc ?_ _)); exact BK199.out), (by (with_reducible repeat (first | refine blk_drewN ?_ _ | refine blk_drew ?_ | refine blk_alloc ?_ _)); exact BK200.out), (by repeat (first | (with_reducible first | exact HB.out | apply below_alloc | apply pw_below_drewN | apply below_drew1 | refine below_set ?_ GE199.out | refine below_set ?_ GE200.out) | exact HB.out))⟩)
                      rintro ⟨v205, v208⟩ w42 ⟨hS_, h0_, h1_, h2_, h3_, h4_⟩
                      have n0_ : Aside0 (Kd.R k23 23 w42 w.heap.size (fun k_ => some k_ ≠ (v208 : Value).ownBlock ∧ k_ ≠ gb199 ∧ k_ ≠ gb200) v205 y204) := ⟨h0_⟩
                      have n1_ : Aside0 (Kd.R k23 23 w42 w.heap.size (fun k_ => some k_ ≠ (v205 : Value).ownBlock ∧ k_ ≠ gb199 ∧ k_ ≠ gb200) v208 y207) := ⟨h1_⟩
                      have n2_ : Aside0 (w42.heap[gb199]? = some (.cells #[.int .i64 a0_0, .int .i64 a0_1, .int .i64 a0_2, .int .i64 a0_3, .int .i64 a0_4, .string a0_5] 23 (0, 0))) := ⟨h2_⟩
                      have n3_ : Aside0 (w42.heap[gb200]? = some (.cells #[.int .i64 a2_0, .int .i64 a2_1, .int .i64 a2_2, .int .i64 a2_3, .int .i64 a2_4, .string a2_5] 23 (0, 0))) := ⟨h3_⟩
                      have n4_ : Aside0 (Below w.heap.size w w42) := ⟨h4_⟩
                      clear BK199
                      clear BK200
                      clear HB
                      clear h0_ h1_ h2_ h3_ h4_
                      have HO206 := n0_
                      have HO209 := n1_
                      have BK199 := n2_
                      have BK200 := n3_
                      have HB := n4_
                      clear n0_ n1_ n2_ n3_ n4_
                      have hHeld : w42.cell? ⟨gb200, 0, none⟩ = some (.int .i64 a2_0) ∧ w42.cell? ⟨gb200, 1, none⟩ = some (.int .i64 a2_1) ∧ w42.cell? ⟨gb200, 2, none⟩ = some (.int .i64 a2_2) ∧ w42.cell? ⟨gb200, 3, none⟩ = some (.int .i64 a2_3) ∧ w42.cell? ⟨gb200, 4, none⟩ = some (.int .i64 a2_4) ∧ w42.cell? ⟨gb200, 5, none⟩ = some (.string a2_5) := hS_
                      obtain ⟨Ao44, co44, eo44⟩ := Kd.R_slice HO209.out
                      (first | subst eo44 | (injection eo44 with f1_ f2_ f3_; have f4_ := f1_.symm; have f5_ := f3_.symm; clear f1_ f2_ f3_; subst f4_; subst f5_))
                      refine norm_ (a' := ?_) ?_ ?_
                      rotate_left
                      · simp only [putAll, Act.put, List.setIfInBounds_toArray, List.set_cons_zero, List.set_cons_succ]
                        rfl
                      refine one_ (i := 4) (N := some 39) #[true, true, true, true, true, false] rfl rfl (by kernel_rfl) (by decide) (fun K hK => ?_)
                      refine Kd.R_append_rows_step k23 (w0 := w) w.heap.size (by rfl) (.tmp 36) (.tmp 38) 33 23 (.agg #[(.int .i64 0), (.int .i64 0), (.int .i64 0), (.int .i64 0), (.int .i64 0), (.string ⟨#[]⟩)]) 56 rfl Try.underlying33 info23 rfl (by decide) (by omega) v205 y204 y207 _ _ _ (fun k_ => some k_ ≠ (.slice Ao44 y207.length co44 : Value).ownBlock ∧ k_ ≠ gb199 ∧ k_ ≠ gb200) (fun _ => False) rfl rfl ?aO ?aR (fun _ _ h => h) (fun _ h => h.elim) ?aF ?aB ?aS ?aL ?_
                      (case aR => repeat (first | exact (Kd.R_reads' HO209.out).2.2 | (with_reducible refine Kd.C_alloc ?_ _) | (with_reducible refine Kd.C_drewN ?_ _) | (with_reducible refine Kd.C_drew ?_)))
                      (case aB => exact (by repeat (first | (with_reducible first | exact HB.out | apply below_alloc | apply pw_below_drewN | apply below_drew1 | refine below_set ?_ GE199.out | refine below_set ?_ GE200.out) | exact HB.out)))
                      (case aF => exact (fun k_ hk => ⟨Kd.fresh' (Kd.R_lt (by (with_reducible repeat (first | apply Kd.R_alloc | apply Kd.R_drewN | apply Kd.R_drew)); exact HO209.out)) k_ hk, Kd.freshB (g := gb199) (o := .cells #[.int .i64 a0_0, .int .i64 a0_1, .int .i64 a0_2, .int .i64 a0_3, .int .i64 a0_4, .string a0_5] 23 (0, 0)) (by (with_reducible repeat (first | refine blk_drewN ?_ _ | refine blk_drew ?_ | refine blk_alloc ?_ _)); exact BK199.out) k_ hk, Kd.freshB (g := gb200) (o := .cells #[.int .i64 a2_0, .int .i64 a2_1, .int .i64 a2_2, .int .i64 a2_3, .int .i64 a2_4, .string a2_5] 23 (0, 0)) (by (with_reducible repeat (first | refine blk_drewN ?_ _ | refine blk_drew ?_ | refine blk_alloc ?_ _)); exact BK200.out) k_ hk⟩))
                      (case aO => exact (by (with_reducible repeat (first | apply Kd.R_alloc | apply Kd.R_drewN | apply Kd.R_drew)); exact HO206.out))
                      (case aS => exact (below_size (by repeat (first | (with_reducible first | exact HB.out | apply below_alloc | apply pw_below_drewN | apply below_drew1 | refine below_set ?_ GE199.out | refine below_set ?_ GE200.out) | exact HB.out))))
                      (case aL => have := LMc19.out; omega)
                      intro v211 w43 ho hb hg hat
                      rw [← Ny210.out] at ho
                      have n0_ := Aside0.mk (blk_grown (g := gb199) (o := .cells #[.int .i64 a0_0, .int .i64 a0_1, .int .i64 a0_2, .int .i64 a0_3, .int .i64 a0_4, .string a0_5] 23 (0, 0)) (by (with_reducible repeat (first | refine blk_drewN ?_ _ | refine blk_drew ?_ | refine blk_alloc ?_ _)); exact BK199.out) hg (Kd.R_away HO206.out (fun _ hk => hk.2.1)))
                      have n1_ := Aside0.mk (blk_grown (g := gb200) (o := .cells #[.int .i64 a2_0, .int .i64 a2_1, .int .i64 a2_2, .int .i64 a2_3, .int .i64 a2_4, .string a2_5] 23 (0, 0)) (by (with_reducible repeat (first | refine blk_drewN ?_ _ | refine blk_drew ?_ | refine blk_alloc ?_ _)); exact BK200.out) hg (Kd.R_away HO206.out (fun _ hk => hk.2.2)))
                      have n2_ := Aside0.mk (Kd.R_after (ok := (fun k_ => k_ ≠ gb199 ∧ k_ ≠ gb200)) (by (with_reducible repeat (first | apply Kd.R_alloc | apply Kd.R_drewN | apply Kd.R_drew)); exact Kd.R_mono HO209.out (fun _ hk => ⟨⟨hk.2.1, hk.2.2⟩, hk.1⟩)) hg hat)
                      have n3_ := Aside0.mk (hb)
                      have n4_ := Aside0.mk (ho)
                      clear BK199
                      clear BK200
                      clear HO209
                      clear HB
                      clear HO206
                      have BK199 := n0_
                      have BK200 := n1_
                      have HO209 := n2_
                      have HB := n3_
                      have HO212 := n4_
                      clear n0_ n1_ n2_ n3_ n4_
                      clear ho hb hg hat
                      refine hK.out _ _ ⟨(blk_cell BK200.out 0).trans rfl, (blk_cell BK200.out 1).trans rfl, (blk_cell BK200.out 2).trans rfl, (blk_cell BK200.out 3).trans rfl, (blk_cell BK200.out 4).trans rfl, (blk_cell BK200.out 5).trans rfl⟩ (fun hHeld => ?_)
                      clear hK K
                      refine norm_ (a' := ?_) ?_ ?_
                      rotate_left
                      · show Act.put _ (some 39) _ = _
                        simp only [Act.put, List.setIfInBounds_toArray, List.set_cons_zero, List.set_cons_succ, i64_w, i32_w]
                        rfl
                      refine pure_ (i := 5) (N := some 10) (v := ?_) (a' := ?_) #[true, true, true, true, true, true] rfl rfl (by kernel_rfl) (fun _ _ _ h => h) (Or.inl ⟨by rfl, ?_⟩) ?_ ?_
                      rotate_left
                      · intro w'
                        go_simp
                        with_reducible rfl
                      rotate_left
                      · simp only [Act.put, List.setIfInBounds_toArray, List.set_cons_zero, List.set_cons_succ, i64_w, i32_w]
                        rfl
                      refine done_ (by kernel_rfl) ?_
                      have hnb45 := NB199_200.out
                      have hnc45 := NB200_199.out
                      have hcz46_0 : w43.cell? ⟨gb199, 0, none⟩ = some (.int .i64 a0_0) := (blk_cell BK199.out 0).trans rfl
                      have hcz46_1 : w43.cell? ⟨gb199, 1, none⟩ = some (.int .i64 a0_1) := (blk_cell BK199.out 1).trans rfl
                      have hcz46_2 : w43.cell? ⟨gb199, 2, none⟩ = some (.int .i64 a0_2) := (blk_cell BK199.out 2).trans rfl
                      have hcz46_3 : w43.cell? ⟨gb199, 3, none⟩ = some (.int .i64 a0_3) := (blk_cell BK199.out 3).trans rfl
                      have hcz46_4 : w43.cell? ⟨gb199, 4, none⟩ = some (.int .i64 a0_4) := (blk_cell BK199.out 4).trans rfl
                      have hcz46_5 : w43.cell? ⟨gb199, 5, none⟩ = some (.string a0_5) := (blk_cell BK199.out 5).trans rfl
                      have hfz46_0 := blk_frozen BK199.out 0
                      have hfz46_1 := blk_frozen BK199.out 1
                      have hfz46_2 := blk_frozen BK199.out 2
                      have hfz46_3 := blk_frozen BK199.out 3
                      have hfz46_4 := blk_frozen BK199.out 4
                      have hfz46_5 := blk_frozen BK199.out 5
                      try go_wp2_with (first | ((with_reducible refine gate_callee (f := 16) rfl ?_); refine goesL_ (some 42) rfl rfl Try.func16 (by kernel_rfl) rfl #[.agg #[.int .i64 a0_0, .int .i64 a0_1, .int .i64 a0_2, .int .i64 a0_3, .int .i64 a0_4, .string a0_5], .slice A1 l1.length c1] rfl (by (try simp only [List.map_toArray, List.map_cons, List.map_nil]); first | done | rfl | (simp only [List.length_drop, List.length_take]; rfl)) ?_; (with_reducible refine (keys_Any.calls a0_0 a0_1 a0_2 a0_3 a0_4 a0_5 _ _ l1 t213 _ ?side1 ?side2 A20.out).mono ?_); (case side1 => repeat (first | exact (Kd.C_below HR1.out HB.out) | (with_reducible refine Kd.C_alloc ?_ _) | (with_reducible refine Kd.C_drewN ?_ _) | (with_reducible refine Kd.C_drew ?_))); (case side2 => exact HC1.out); rintro e w47 ⟨rfl, hb⟩; refine ⟨_, rfl, ?_⟩; have n0_ := Aside0.mk (Kd.R_below (by (with_reducible repeat (first | apply Kd.R_alloc | apply Kd.R_drewN | apply Kd.R_drew)); exact HO209.out) hb); have n1_ := Aside0.mk (Kd.R_below (by (with_reducible repeat (first | apply Kd.R_alloc | apply Kd.R_drewN | apply Kd.R_drew)); exact HO212.out) hb); have n2_ := Aside0.mk (blk_below (g := gb199) (o := .cells #[.int .i64 a0_0, .int .i64 a0_1, .int .i64 a0_2, .int .i64 a0_3, .int .i64 a0_4, .string a0_5] 23 (0, 0)) (by (with_reducible repeat (first | refine blk_drewN ?_ _ | refine blk_drew ?_ | refine blk_alloc ?_ _)); exact BK199.out) hb); have n3_ := Aside0.mk (blk_below (g := gb200) (o := .cells #[.int .i64 a2_0, .int .i64 a2_1, .int .i64 a2_2, .int .i64 a2_3, .int .i64 a2_4, .string a2_5] 23 (0, 0)) (by (with_reducible repeat (first | refine blk_drewN ?_ _ | refine blk_drew ?_ | refine blk_alloc ?_ _)); exact BK200.out) hb); have n4_ := Aside0.mk (below_step (by repeat (first | (with_reducible first | exact HB.out | apply below_alloc | apply pw_below_drewN | apply below_drew1 | refine below_set ?_ GE199.out | refine below_set ?_ GE200.out) | exact HB.out)) hb); clear HO209; clear HO212; clear BK199; clear BK200; clear HB; have HO209 := n0_; have HO212 := n1_; have BK199 := n2_; have BK200 := n3_; have HB := n4_; clear n0_ n1_ n2_ n3_ n4_; (try clear hb); (try clear hb2); (try clear hk); (try clear hi); have hcz48_0 : w47.cell? ⟨gb199, 0, none⟩ = some (.int .i64 a0_0) := (blk_cell BK199.out 0).trans rfl; have hcz48_1 : w47.cell? ⟨gb199, 1, none⟩ = some (.int .i64 a0_1) := (blk_cell BK199.out 1).trans rfl; have hcz48_2 : w47.cell? ⟨gb199, 2, none⟩ = some (.int .i64 a0_2) := (blk_cell BK199.out 2).trans rfl; have hcz48_3 : w47.cell? ⟨gb199, 3, none⟩ = some (.int .i64 a0_3) := (blk_cell BK199.out 3).trans rfl; have hcz48_4 : w47.cell? ⟨gb199, 4, none⟩ = some (.int .i64 a0_4) := (blk_cell BK199.out 4).trans rfl; have hcz48_5 : w47.cell? ⟨gb199, 5, none⟩ = some (.string a0_5) := (blk_cell BK199.out 5).trans rfl; have hfz48_0 := blk_frozen BK199.out 0; have hfz48_1 := blk_frozen BK199.out 1; have hfz48_2 := blk_frozen BK199.out 2; have hfz48_3 := blk_frozen BK199.out 3; have hfz48_4 := blk_frozen BK199.out 4; have hfz48_5 := blk_frozen BK199.out 5; obtain ⟨Ao49, co49, eo49⟩ := Kd.R_slice HO212.out; subst eo49) | (go_at_call 16; (with_reducible refine (keys_Any.calls a0_0 a0_1 a0_2 a0_3 a0_4 a0_5 _ _ y210 t214 _ ?side1 ?side2 A22.out).mono ?_); (case side1 => repeat (first | exact (Kd.R_reads' HO212.out).2.2 | (with_reducible refine Kd.C_alloc ?_ _) | (with_reducible refine Kd.C_drewN ?_ _) | (with_reducible refine Kd.C_drew ?_))); (case side2 => exact (Kd.R_reads' HO212.out).2.1); rintro e w50 ⟨rfl, hb⟩; have n0_ := Aside0.mk (Kd.R_below (by (with_reducible repeat (first | apply Kd.R_alloc | apply Kd.R_drewN | apply Kd.R_drew)); exact HO209.out) hb); have n1_ := Aside0.mk (Kd.R_below (by (with_reducible repeat (first | apply Kd.R_alloc | apply Kd.R_drewN | apply Kd.R_drew)); exact HO212.out) hb); have n2_ := Aside0.mk (blk_below (g := gb199) (o := .cells #[.int .i64 a0_0, .int .i64 a0_1, .int .i64 a0_2, .int .i64 a0_3, .int .i64 a0_4, .string a0_5] 23 (0, 0)) (by (with_reducible repeat (first | refine blk_drewN ?_ _ | refine blk_drew ?_ | refine blk_alloc ?_ _)); exact BK199.out) hb); have n3_ := Aside0.mk (blk_below (g := gb200) (o := .cells #[.int .i64 a2_0, .int .i64 a2_1, .int .i64 a2_2, .int .i64 a2_3, .int .i64 a2_4, .string a2_5] 23 (0, 0)) (by (with_reducible repeat (first | refine blk_drewN ?_ _ | refine blk_drew ?_ | refine blk_alloc ?_ _)); exact BK200.out) hb); have n4_ := Aside0.mk (below_step (by repeat (first | (with_reducible first | exact HB.out | apply below_alloc | apply pw_below_drewN | apply below_drew1 | refine below_set ?_ GE199.out | refine below_set ?_ GE200.out) | exact HB.out)) hb); clear HO209; clear HO212; clear BK199; clear BK200; clear HB; have HO209 := n0_; have HO212 := n1_; have BK199 := n2_; have BK200 := n3_; have HB := n4_; clear n0_ n1_ n2_ n3_ n4_; (try clear hb); (try clear hb2); (try clear hk); (try clear hi); have hcz51_0 : w50.cell? ⟨gb199, 0, none⟩ = some (.int .i64 a0_0) := (blk_cell BK199.out 0).trans rfl; have hcz51_1 : w50.cell? ⟨gb199, 1, none⟩ = some (.int .i64 a0_1) := (blk_cell BK199.out 1).trans rfl; have hcz51_2 : w50.cell? ⟨gb199, 2, none⟩ = some (.int .i64 a0_2) := (blk_cell BK199.out 2).trans rfl; have hcz51_3 : w50.cell? ⟨gb199, 3, none⟩ = some (.int .i64 a0_3) := (blk_cell BK199.out 3).trans rfl; have hcz51_4 : w50.cell? ⟨gb199, 4, none⟩ = some (.int .i64 a0_4) := (blk_cell BK199.out 4).trans rfl; have hcz51_5 : w50.cell? ⟨gb199, 5, none⟩ = some (.string a0_5) := (blk_cell BK199.out 5).trans rfl; have hfz51_0 := blk_frozen BK199.out 0; have hfz51_1 := blk_frozen BK199.out 1; have hfz51_2 := blk_frozen BK199.out 2; have hfz51_3 := blk_frozen BK199.out 3; have hfz51_4 := blk_frozen BK199.out 4; have hfz51_5 := blk_frozen BK199.out 5; have hcz52_0 : w50.cell? ⟨gb200, 0, none⟩ = some (.int .i64 a2_0) := (blk_cell BK200.out 0).trans rfl; have hcz52_1 : w50.cell? ⟨gb200, 1, none⟩ = some (.int .i64 a2_1) := (blk_cell BK200.out 1).trans rfl; have hcz52_2 : w50.cell? ⟨gb200, 2, none⟩ = some (.int .i64 a2_2) := (blk_cell BK200.out 2).trans rfl; have hcz52_3 : w50.cell? ⟨gb200, 3, none⟩ = some (.int .i64 a2_3) := (blk_cell BK200.out 3).trans rfl; have hcz52_4 : w50.cell? ⟨gb200, 4, none⟩ = some (.int .i64 a2_4) := (blk_cell BK200.out 4).trans rfl; have hcz52_5 : w50.cell? ⟨gb200, 5, none⟩ = some (.string a2_5) := (blk_cell BK200.out 5).trans rfl; have hfz52_0 := blk_frozen BK200.out 0; have hfz52_1 := blk_frozen BK200.out 1; have hfz52_2 := blk_frozen BK200.out 2; have hfz52_3 := blk_frozen BK200.out 3; have hfz52_4 := blk_frozen BK200.out 4; have hfz52_5 := blk_frozen BK200.out 5) | (go_at_call 13; (with_reducible refine (keys_Interfere.calls a0_0 a0_1 a0_2 a0_3 a0_4 a0_5 a2_0 a2_1 a2_2 a2_3 a2_4 a2_5 t215 _ A37.out).mono ?_); rintro e w53 ⟨rfl, hb⟩; have n0_ := Aside0.mk (Kd.R_below (by (with_reducible repeat (first | apply Kd.R_alloc | apply Kd.R_drewN | apply Kd.R_drew)); exact HO209.out) hb); have n1_ := Aside0.mk (Kd.R_below (by (with_reducible repeat (first | apply Kd.R_alloc | apply Kd.R_drewN | apply Kd.R_drew)); exact HO212.out) hb); have n2_ := Aside0.mk (blk_below (g := gb199) (o := .cells #[.int .i64 a0_0, .int .i64 a0_1, .int .i64 a0_2, .int .i64 a0_3, .int .i64 a0_4, .string a0_5] 23 (0, 0)) (by (with_reducible repeat (first | refine blk_drewN ?_ _ | refine blk_drew ?_ | refine blk_alloc ?_ _)); exact BK199.out) hb); have n3_ := Aside0.mk (blk_below (g := gb200) (o := .cells #[.int .i64 a2_0, .int .i64 a2_1, .int .i64 a2_2, .int .i64 a2_3, .int .i64 a2_4, .string a2_5] 23 (0, 0)) (by (with_reducible repeat (first | refine blk_drewN ?_ _ | refine blk_drew ?_ | refine blk_alloc ?_ _)); exact BK200.out) hb); have n4_ := Aside0.mk (below_step (by repeat (first | (with_reducible first | exact HB.out | apply below_alloc | apply pw_below_drewN | apply below_drew1 | refine below_set ?_ GE199.out | refine below_set ?_ GE200.out) | exact HB.out)) hb); clear HO209; clear HO212; clear BK199; clear BK200; clear HB; have HO209 := n0_; have HO212 := n1_; have BK199 := n2_; have BK200 := n3_; have HB := n4_; clear n0_ n1_ n2_ n3_ n4_; (try clear hb); (try clear hb2); (try clear hk); (try clear hi)))
                      go_ret
                      exact ⟨by first | rfl | (simp [errW_none, errW_some] <;> rfl) | (simp [*, errW_none, errW_some] <;> rfl), by repeat (first | (with_reducible first | exact HB.out | apply below_alloc | apply pw_below_drewN | apply below_drew1 | refine below_set ?_ GE199.out | refine below_set ?_ GE200.out) | exact HB.out)⟩
                  · rw [if_neg c21] at H
                    have c21b0 : (t213 == x8_2) = false := by simpa using c21
                    (try (have c21b1 : decide (t213 = x8_2) = false := by simpa using c21))
                    (try (have c21b2 : (t213 == x8_2) = false := by simpa using c21))
                    (try (have c21b3 : ¬ (t213 = x8_2) := by simpa using c21))
                    clear c21
                    exact absurd (Option.some.inj H) (by rw [HRT.out]; decide)
                · rw [if_neg c19] at H
                  exact absurd H (by simp)
              · rw [if_neg c18] at H
                exact absurd H (by simp)

end Go.Proofs.Ytanhbhgmldpdkaa.P
