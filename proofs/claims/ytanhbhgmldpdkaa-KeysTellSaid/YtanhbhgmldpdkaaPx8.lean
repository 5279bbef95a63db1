/- Plain Lean functions and their contracts over the translation, written by a program of this session (myprint.py, over the kit's print); no condition but each contract's own. -/
import Derived.Test.YtanhbhgmldpdkaaPx0
import Derived.Test.YtanhbhgmldpdkaaPx3
import Derived.Test.YtanhbhgmldpdkaaPx7
namespace Go.Proofs.Ytanhbhgmldpdkaa.P
open Go.RowKit Go.Proofs.YtanhbhgmldpdkaaW.PrintWords Go.Proofs.YtanhbhgmldpdkaaW.PrintLast Go.Proofs.YtanhbhgmldpdkaaW.PrintMore
attribute [local go_sem] max2_int min2_int max_two min_two max_three min_three max_four min_four   -- for this text's walks alone
set_option linter.unusedVariables false
set_option linter.unusedSimpArgs false

/-! ### colloquyref05_Interfere: function 15 -/
def colloquyref05_Interfere.j0 : Nat → Bool → Int → Int → Int → Int → Int → ByteArray → Int → Int → Int → Int → Int → ByteArray → Option (Bool)
  | 0, _, _, _, _, _, _, _, _, _, _, _, _, _ => none
  | k + 1, x28, x184000, x184001, x184002, x184003, x184004, x184005, x185000, x185001, x185002, x185003, x185004, x185005 => if x28 = true then (some false) else ((colloquyref04_Reads.f x184000 x184001 x184002 x184003 x184004 x184005).bind fun t187 => ((colloquyref04_Reads.f x185000 x185001 x185002 x185003 x185004 x185005).bind fun t188 => (if x184000 = x185000 then (some true) else (if x184003 = x185003 then (if t187 = true then (some (!t188)) else (some true)) else (some false)))))
def colloquyref05_Interfere.f (k : Nat) (a0_0 : Int) (a0_1 : Int) (a0_2 : Int) (a0_3 : Int) (a0_4 : Int) (a0_5 : ByteArray) (a1_0 : Int) (a1_1 : Int) (a1_2 : Int) (a1_3 : Int) (a1_4 : Int) (a1_5 : ByteArray) : Option (Bool) := (colloquyref04_May.f k a0_0 a0_1 a0_2 a0_3 a0_4 a0_5).bind fun t185 => ((colloquyref04_May.f k a1_0 a1_1 a1_2 a1_3 a1_4 a1_5).bind fun t186 => (if t185 = true then (if t186 = true then (if a0_2 = 0 then (colloquyref05_Interfere.j0 k true a0_0 a0_1 a0_2 a0_3 a0_4 a0_5 a1_0 a1_1 a1_2 a1_3 a1_4 a1_5) else (colloquyref05_Interfere.j0 k (a1_2 == 0) a0_0 a0_1 a0_2 a0_3 a0_4 a0_5 a1_0 a1_1 a1_2 a1_3 a1_4 a1_5)) else (colloquyref05_Interfere.j0 k true a0_0 a0_1 a0_2 a0_3 a0_4 a0_5 a1_0 a1_1 a1_2 a1_3 a1_4 a1_5)) else (colloquyref05_Interfere.j0 k true a0_0 a0_1 a0_2 a0_3 a0_4 a0_5 a1_0 a1_1 a1_2 a1_3 a1_4 a1_5)))
theorem colloquyref05_Interfere.mono_l : ∀ k, (∀ y0 y1 y2 y3 y4 y5 y6 y7 y8 y9 y10 y11 y12, LeO (colloquyref05_Interfere.j0 k y0 y1 y2 y3 y4 y5 y6 y7 y8 y9 y10 y11 y12) (colloquyref05_Interfere.j0 (k + 1) y0 y1 y2 y3 y4 y5 y6 y7 y8 y9 y10 y11 y12))
  | 0 => fun _ _ _ _ _ _ _ _ _ _ _ _ _ r h => by simp [colloquyref05_Interfere.j0] at h
  | k + 1 => by
    have ih0 := colloquyref05_Interfere.mono_l k
    · intro y0 y1 y2 y3 y4 y5 y6 y7 y8 y9 y10 y11 y12
      unfold colloquyref05_Interfere.j0
      repeat' first
      | (with_reducible exact ih0 _ _ _ _ _ _ _ _ _ _ _ _ _)
      | (with_reducible exact colloquyref04_May.mono _ _ _ _ _ _ _)
      | (with_reducible exact LeO.refl _)
      | (with_reducible exact LeO.none _)
      | (with_reducible refine LeO.ite ?_ ?_)
      | (with_reducible refine LeO.bind ?_ (fun _ => ?_))
      | exact ih0 _ _ _ _ _ _ _ _ _ _ _ _ _
      | exact colloquyref04_May.mono _ _ _ _ _ _ _
      | exact LeO.none _
      | refine LeO.ite ?_ ?_
      | refine LeO.bind ?_ (fun _ => ?_)
theorem colloquyref05_Interfere.mono : ∀ a0 a1 a2 a3 a4 a5 a6 a7 a8 a9 a10 a11 k, LeO (colloquyref05_Interfere.f k a0 a1 a2 a3 a4 a5 a6 a7 a8 a9 a10 a11) (colloquyref05_Interfere.f (k + 1) a0 a1 a2 a3 a4 a5 a6 a7 a8 a9 a10 a11) := by
  intro a0 a1 a2 a3 a4 a5 a6 a7 a8 a9 a10 a11 k
  have ih0 := colloquyref05_Interfere.mono_l k
  unfold colloquyref05_Interfere.f
  repeat' first
      | (with_reducible exact ih0 _ _ _ _ _ _ _ _ _ _ _ _ _)
      | (with_reducible exact colloquyref04_May.mono _ _ _ _ _ _ _)
      | (with_reducible exact LeO.refl _)
      | (with_reducible exact LeO.none _)
      | (with_reducible refine LeO.ite ?_ ?_)
      | (with_reducible refine LeO.bind ?_ (fun _ => ?_))
      | exact ih0 _ _ _ _ _ _ _ _ _ _ _ _ _
      | exact colloquyref04_May.mono _ _ _ _ _ _ _
      | exact LeO.none _
      | refine LeO.ite ?_ ?_
      | refine LeO.bind ?_ (fun _ => ?_)
set_option maxHeartbeats 8000000 in
set_option maxRecDepth 100000 in
theorem colloquyref05_Interfere.calls (k : Nat) (a0_0 : Int) (a0_1 : Int) (a0_2 : Int) (a0_3 : Int) (a0_4 : Int) (a0_5 : ByteArray) (a1_0 : Int) (a1_1 : Int) (a1_2 : Int) (a1_3 : Int) (a1_4 : Int) (a1_5 : ByteArray) (r : Bool) (w : World) (h : colloquyref05_Interfere.f k a0_0 a0_1 a0_2 a0_3 a0_4 a0_5 a1_0 a1_1 a1_2 a1_3 a1_4 a1_5 = some r) :
    Calls Try.prog 15 #[.agg #[.int .i64 a0_0, .int .i64 a0_1, .int .i64 a0_2, .int .i64 a0_3, .int .i64 a0_4, .string a0_5], .agg #[.int .i64 a1_0, .int .i64 a1_1, .int .i64 a1_2, .int .i64 a1_3, .int .i64 a1_4, .string a1_5]] w fun e w' => e = .returned (.bool r) ∧ Below w.heap.size w w' := by
  have hu23 := Try.underlying23
  have HB := Aside0.mk (Below.refl w.heap.size w)
  have H : ((colloquyref04_May.f k a0_0 a0_1 a0_2 a0_3 a0_4 a0_5).bind fun t185 => ((colloquyref04_May.f k a1_0 a1_1 a1_2 a1_3 a1_4 a1_5).bind fun t186 => (if t185 = true then (if t186 = true then (if a0_2 = 0 then (colloquyref05_Interfere.j0 k true a0_0 a0_1 a0_2 a0_3 a0_4 a0_5 a1_0 a1_1 a1_2 a1_3 a1_4 a1_5) else (colloquyref05_Interfere.j0 k (a1_2 == 0) a0_0 a0_1 a0_2 a0_3 a0_4 a0_5 a1_0 a1_1 a1_2 a1_3 a1_4 a1_5)) else (colloquyref05_Interfere.j0 k true a0_0 a0_1 a0_2 a0_3 a0_4 a0_5 a1_0 a1_1 a1_2 a1_3 a1_4 a1_5)) else (colloquyref05_Interfere.j0 k true a0_0 a0_1 a0_2 a0_3 a0_4 a0_5 a1_0 a1_1 a1_2 a1_3 a1_4 a1_5)))) = some r := h
  clear h
  replace H := Option.bind_eq_some_iff.mp H
  obtain ⟨t185, A30, H⟩ := H
  replace H : ((colloquyref04_May.f k a1_0 a1_1 a1_2 a1_3 a1_4 a1_5).bind fun t186 => (if t185 = true then (if t186 = true then (if a0_2 = 0 then (colloquyref05_Interfere.j0 k true a0_0 a0_1 a0_2 a0_3 a0_4 a0_5 a1_0 a1_1 a1_2 a1_3 a1_4 a1_5) else (colloquyref05_Interfere.j0 k (a1_2 == 0) a0_0 a0_1 a0_2 a0_3 a0_4 a0_5 a1_0 a1_1 a1_2 a1_3 a1_4 a1_5)) else (colloquyref05_Interfere.j0 k true a0_0 a0_1 a0_2 a0_3 a0_4 a0_5 a1_0 a1_1 a1_2 a1_3 a1_4 a1_5)) else (colloquyref05_Interfere.j0 k true a0_0 a0_1 a0_2 a0_3 a0_4 a0_5 a1_0 a1_1 a1_2 a1_3 a1_4 a1_5))) = some r := H
  have A3 := Aside0.mk A30
  clear A30
  replace H := Option.bind_eq_some_iff.mp H
  obtain ⟨t186, A40, H⟩ := H
  replace H : (if t185 = true then (if t186 = true then (if a0_2 = 0 then (colloquyref05_Interfere.j0 k true a0_0 a0_1 a0_2 a0_3 a0_4 a0_5 a1_0 a1_1 a1_2 a1_3 a1_4 a1_5) else (colloquyref05_Interfere.j0 k (a1_2 == 0) a0_0 a0_1 a0_2 a0_3 a0_4 a0_5 a1_0 a1_1 a1_2 a1_3 a1_4 a1_5)) else (colloquyref05_Interfere.j0 k true a0_0 a0_1 a0_2 a0_3 a0_4 a0_5 a1_0 a1_1 a1_2 a1_3 a1_4 a1_5)) else (colloquyref05_Interfere.j0 k true a0_0 a0_1 a0_2 a0_3 a0_4 a0_5 a1_0 a1_1 a1_2 a1_3 a1_4 a1_5)) = some r := H
  have A4 := Aside0.mk A40
  clear A40
  have HC5 := Aside0.mk H
  clear H
  go_enter Try.func15, Try.ntmps15
  go_upto_region 3 with (first | ((with_reducible refine gate_dst (N := 2) rfl ?_); refine box_event ?hg (N := 2) ?hd (cs := #[.int .i64 a0_0, .int .i64 a0_1, .int .i64 a0_2, .int .i64 a0_3, .int .i64 a0_4, .string a0_5]) (t := 23) ?hr ?_; (case hd => rfl); (case hg => rfl); (case hr => first | (go_simp; done) | (go_simp; rfl)); intro gb183 hg w6 hbox hb; have n0_ := Aside0.mk (below_step (by repeat (first | (with_reducible first | exact HB.out | apply below_alloc | apply pw_below_drewN | apply below_drew1) | exact HB.out)) hb); have n1_ := Aside0.mk (hbox); have n2_ := Aside0.mk ((by rw [hg]; exact (below_size (by repeat (first | (with_reducible first | exact HB.out | apply below_alloc | apply pw_below_drewN | apply below_drew1) | exact HB.out))) : w.heap.size ≤ gb183)); have n3_ := Aside0.mk ((by rw [hg]; exact (below_size (by repeat (first | (with_reducible first | exact HB.out | apply below_alloc | apply pw_below_drewN | apply below_drew1) | exact HB.out))) : w.heap.size ≤ gb183)); clear HB; have HB := n0_; have BK183 := n1_; have GW183 := n2_; have GE183 := n3_; clear n0_ n1_ n2_ n3_; clear hb hbox hg) | ((with_reducible refine gate_dst (N := 3) rfl ?_); refine box_event ?hg (N := 3) ?hd (cs := #[.int .i64 a1_0, .int .i64 a1_1, .int .i64 a1_2, .int .i64 a1_3, .int .i64 a1_4, .string a1_5]) (t := 23) ?hr ?_; (case hd => rfl); (case hg => rfl); (case hr => first | (go_simp; done) | (go_simp; rfl)); intro gb184 hg w7 hbox hb; have n0_ := Aside0.mk (blk_below (g := gb183) (o := .cells #[.int .i64 a0_0, .int .i64 a0_1, .int .i64 a0_2, .int .i64 a0_3, .int .i64 a0_4, .string a0_5] 23 (0, 0)) (by (with_reducible repeat (first | refine blk_drewN ?_ _ | refine blk_drew ?_ | refine blk_alloc ?_ _)); exact BK183.out) hb); have n1_ := Aside0.mk (below_step (by repeat (first | (with_reducible first | exact HB.out | apply below_alloc | apply pw_below_drewN | apply below_drew1 | refine below_set ?_ GE183.out) | exact HB.out)) hb); have n2_ := Aside0.mk (hbox); have n3_ := Aside0.mk ((by rw [hg]; exact (below_size (by repeat (first | (with_reducible first | exact HB.out | apply below_alloc | apply pw_below_drewN | apply below_drew1 | refine below_set ?_ GE183.out) | exact HB.out))) : w.heap.size ≤ gb184)); have n4_ := Aside0.mk ((by rw [hg]; exact (below_size (by repeat (first | (with_reducible first | exact HB.out | apply below_alloc | apply pw_below_drewN | apply below_drew1 | refine below_set ?_ GE183.out) | exact HB.out))) : w.heap.size ≤ gb184)); have n5_ := Aside0.mk ((by rw [hg]; exact Nat.ne_of_lt (blk_lt (g := gb183) (o := .cells #[.int .i64 a0_0, .int .i64 a0_1, .int .i64 a0_2, .int .i64 a0_3, .int .i64 a0_4, .string a0_5] 23 (0, 0)) (by (with_reducible repeat (first | refine blk_drewN ?_ _ | refine blk_drew ?_ | refine blk_alloc ?_ _)); exact BK183.out)) : gb183 ≠ gb184)); have n6_ := Aside0.mk ((by rw [hg]; exact Nat.ne_of_gt (blk_lt (g := gb183) (o := .cells #[.int .i64 a0_0, .int .i64 a0_1, .int .i64 a0_2, .int .i64 a0_3, .int .i64 a0_4, .string a0_5] 23 (0, 0)) (by (with_reducible repeat (first | refine blk_drewN ?_ _ | refine blk_drew ?_ | refine blk_alloc ?_ _)); exact BK183.out)) : gb184 ≠ gb183)); clear BK183; clear HB; have BK183 := n0_; have HB := n1_; have BK184 := n2_; have GW184 := n3_; have GE184 := n4_; have NB183_184 := n5_; have NB184_183 := n6_; clear n0_ n1_ n2_ n3_ n4_ n5_ n6_; clear hb hbox hg; have hnb8 := NB183_184.out; have hnc8 := NB184_183.out; have hcz9_0 : w7.cell? ⟨gb183, 0, none⟩ = some (.int .i64 a0_0) := (blk_cell BK183.out 0).trans rfl; have hcz9_1 : w7.cell? ⟨gb183, 1, none⟩ = some (.int .i64 a0_1) := (blk_cell BK183.out 1).trans rfl; have hcz9_2 : w7.cell? ⟨gb183, 2, none⟩ = some (.int .i64 a0_2) := (blk_cell BK183.out 2).trans rfl; have hcz9_3 : w7.cell? ⟨gb183, 3, none⟩ = some (.int .i64 a0_3) := (blk_cell BK183.out 3).trans rfl; have hcz9_4 : w7.cell? ⟨gb183, 4, none⟩ = some (.int .i64 a0_4) := (blk_cell BK183.out 4).trans rfl; have hcz9_5 : w7.cell? ⟨gb183, 5, none⟩ = some (.string a0_5) := (blk_cell BK183.out 5).trans rfl; have hfz9_0 := blk_frozen BK183.out 0; have hfz9_1 := blk_frozen BK183.out 1; have hfz9_2 := blk_frozen BK183.out 2; have hfz9_3 := blk_frozen BK183.out 3; have hfz9_4 := blk_frozen BK183.out 4; have hfz9_5 := blk_frozen BK183.out 5) | ((with_reducible refine gate_callee (f := 23) rfl ?_); refine goesL_ (some 10) rfl rfl Try.func23 (by kernel_rfl) rfl #[.agg #[.int .i64 a0_0, .int .i64 a0_1, .int .i64 a0_2, .int .i64 a0_3, .int .i64 a0_4, .string a0_5]] rfl (by (try simp only [List.map_toArray, List.map_cons, List.map_nil]); first | done | rfl | (simp only [List.length_drop, List.length_take]; rfl)) ?_; (with_reducible refine (colloquyref04_May.calls k a0_0 a0_1 a0_2 a0_3 a0_4 a0_5 t185 _ A3.out).mono ?_); rintro e w10 ⟨rfl, hb⟩; refine ⟨_, rfl, ?_⟩; have n0_ := Aside0.mk (blk_below (g := gb183) (o := .cells #[.int .i64 a0_0, .int .i64 a0_1, .int .i64 a0_2, .int .i64 a0_3, .int .i64 a0_4, .string a0_5] 23 (0, 0)) (by (with_reducible repeat (first | refine blk_drewN ?_ _ | refine blk_drew ?_ | refine blk_alloc ?_ _)); exact BK183.out) hb); have n1_ := Aside0.mk (blk_below (g := gb184) (o := .cells #[.int .i64 a1_0, .int .i64 a1_1, .int .i64 a1_2, .int .i64 a1_3, .int .i64 a1_4, .string a1_5] 23 (0, 0)) (by (with_reducible repeat (first | refine blk_drewN ?_ _ | refine blk_drew ?_ | refine blk_alloc ?_ _)); exact BK184.out) hb); have n2_ := Aside0.mk (below_step (by repeat (first | (with_reducible first | exact HB.out | apply below_alloc | apply pw_below_drewN | apply below_drew1 | refine below_set ?_ GE183.out | refine below_set ?_ GE184.out) | exact HB.out)) hb); clear BK183; clear BK184; clear HB; have BK183 := n0_; have BK184 := n1_; have HB := n2_; clear n0_ n1_ n2_; (try clear hb); (try clear hb2); (try clear hk); (try clear hi); have hcz11_0 : w10.cell? ⟨gb184, 0, none⟩ = some (.int .i64 a1_0) := (blk_cell BK184.out 0).trans rfl; have hcz11_1 : w10.cell? ⟨gb184, 1, none⟩ = some (.int .i64 a1_1) := (blk_cell BK184.out 1).trans rfl; have hcz11_2 : w10.cell? ⟨gb184, 2, none⟩ = some (.int .i64 a1_2) := (blk_cell BK184.out 2).trans rfl; have hcz11_3 : w10.cell? ⟨gb184, 3, none⟩ = some (.int .i64 a1_3) := (blk_cell BK184.out 3).trans rfl; have hcz11_4 : w10.cell? ⟨gb184, 4, none⟩ = some (.int .i64 a1_4) := (blk_cell BK184.out 4).trans rfl; have hcz11_5 : w10.cell? ⟨gb184, 5, none⟩ = some (.string a1_5) := (blk_cell BK184.out 5).trans rfl; have hfz11_0 := blk_frozen BK184.out 0; have hfz11_1 := blk_frozen BK184.out 1; have hfz11_2 := blk_frozen BK184.out 2; have hfz11_3 := blk_frozen BK184.out 3; have hfz11_4 := blk_frozen BK184.out 4; have hfz11_5 := blk_frozen BK184.out 5) | ((with_reducible refine gate_callee (f := 23) rfl ?_); refine goesL_ (some 12) rfl rfl Try.func23 (by kernel_rfl) rfl #[.agg #[.int .i64 a1_0, .int .i64 a1_1, .int .i64 a1_2, .int .i64 a1_3, .int .i64 a1_4, .string a1_5]] rfl (by (try simp only [List.map_toArray, List.map_cons, List.map_nil]); first | done | rfl | (simp only [List.length_drop, List.length_take]; rfl)) ?_; (with_reducible refine (colloquyref04_May.calls k a1_0 a1_1 a1_2 a1_3 a1_4 a1_5 t186 _ A4.out).mono ?_); rintro e w12 ⟨rfl, hb⟩; refine ⟨_, rfl, ?_⟩; have n0_ := Aside0.mk (blk_below (g := gb183) (o := .cells #[.int .i64 a0_0, .int .i64 a0_1, .int .i64 a0_2, .int .i64 a0_3, .int .i64 a0_4, .string a0_5] 23 (0, 0)) (by (with_reducible repeat (first | refine blk_drewN ?_ _ | refine blk_drew ?_ | refine blk_alloc ?_ _)); exact BK183.out) hb); have n1_ := Aside0.mk (blk_below (g := gb184) (o := .cells #[.int .i64 a1_0, .int .i64 a1_1, .int .i64 a1_2, .int .i64 a1_3, .int .i64 a1_4, .string a1_5] 23 (0, 0)) (by (with_reducible repeat (first | refine blk_drewN ?_ _ | refine blk_drew ?_ | refine blk_alloc ?_ _)); exact BK184.out) hb); have n2_ := Aside0.mk (below_step (by repeat (first | (with_reducible first | exact HB.out | apply below_alloc | apply pw_below_drewN | apply below_drew1 | refine below_set ?_ GE183.out | refine below_set ?_ GE184.out) | exact HB.out)) hb); clear BK183; clear BK184; clear HB; have BK183 := n0_; have BK184 := n1_; have HB := n2_; clear n0_ n1_ n2_; (try clear hb); (try clear hb2); (try clear hk); (try clear hi)))
  (try simp only [Act.put, List.setIfInBounds_toArray, List.set_cons_zero, List.set_cons_succ])
  go_cut [28] (fun v28 wc => ∃ (kq : Nat) (x28_4 : Bool), v28 = .bool x28_4 ∧ Aside0 (colloquyref05_Interfere.j0 kq x28_4 a0_0 a0_1 a0_2 a0_3 a0_4 a0_5 a1_0 a1_1 a1_2 a1_3 a1_4 a1_5 = some r) ∧ Aside0 (kq ≤ k) ∧ Aside0 (wc.heap[gb183]? = some (.cells #[.int .i64 a0_0, .int .i64 a0_1, .int .i64 a0_2, .int .i64 a0_3, .int .i64 a0_4, .string a0_5] 23 (0, 0))) ∧ Aside0 (wc.heap[gb184]? = some (.cells #[.int .i64 a1_0, .int .i64 a1_1, .int .i64 a1_2, .int .i64 a1_3, .int .i64 a1_4, .string a1_5] 23 (0, 0))) ∧ Aside0 (Below w.heap.size w wc))
  case first =>
    have H := HC5.out
    clear HC5
    by_cases c13 : t185 = true
    · subst c13
      have H1 : (if t186 = true then (if a0_2 = 0 then (colloquyref05_Interfere.j0 k true a0_0 a0_1 a0_2 a0_3 a0_4 a0_5 a1_0 a1_1 a1_2 a1_3 a1_4 a1_5) else (colloquyref05_Interfere.j0 k (a1_2 == 0) a0_0 a0_1 a0_2 a0_3 a0_4 a0_5 a1_0 a1_1 a1_2 a1_3 a1_4 a1_5)) else (colloquyref05_Interfere.j0 k true a0_0 a0_1 a0_2 a0_3 a0_4 a0_5 a1_0 a1_1 a1_2 a1_3 a1_4 a1_5)) = some r := by rw [if_pos rfl] at H; exact H
      clear H
      have H := H1
      clear H1
      by_cases c14 : t186 = true
      · subst c14
        have H1 : (if a0_2 = 0 then (colloquyref05_Interfere.j0 k true a0_0 a0_1 a0_2 a0_3 a0_4 a0_5 a1_0 a1_1 a1_2 a1_3 a1_4 a1_5) else (colloquyref05_Interfere.j0 k (a1_2 == 0) a0_0 a0_1 a0_2 a0_3 a0_4 a0_5 a1_0 a1_1 a1_2 a1_3 a1_4 a1_5)) = some r := by rw [if_pos rfl] at H; exact H
        clear H
        have H := H1
        clear H1
        by_cases c15 : a0_2 = 0
        · rw [if_pos c15] at H
          have c15b0 : (a0_2 == 0) = true := beq_iff_eq.mpr c15
          have c15b1 : (a0_2 != 0) = false := bne_eq_false_iff_eq.mpr c15
          clear c15
          (first | rw [c15b0] | (simp only [i64_w, i32_w]; rw [c15b0]) | skip)
          have H' := Aside0.mk H
          clear H
          have hnb16 := NB183_184.out
          have hnc16 := NB184_183.out
          have hcz17_0 : w12.cell? ⟨gb183, 0, none⟩ = some (.int .i64 a0_0) := (blk_cell BK183.out 0).trans rfl
          have hcz17_1 : w12.cell? ⟨gb183, 1, none⟩ = some (.int .i64 a0_1) := (blk_cell BK183.out 1).trans rfl
          have hcz17_2 : w12.cell? ⟨gb183, 2, none⟩ = some (.int .i64 a0_2) := (blk_cell BK183.out 2).trans rfl
          have hcz17_3 : w12.cell? ⟨gb183, 3, none⟩ = some (.int .i64 a0_3) := (blk_cell BK183.out 3).trans rfl
          have hcz17_4 : w12.cell? ⟨gb183, 4, none⟩ = some (.int .i64 a0_4) := (blk_cell BK183.out 4).trans rfl
          have hcz17_5 : w12.cell? ⟨gb183, 5, none⟩ = some (.string a0_5) := (blk_cell BK183.out 5).trans rfl
          have hfz17_0 := blk_frozen BK183.out 0
          have hfz17_1 := blk_frozen BK183.out 1
          have hfz17_2 := blk_frozen BK183.out 2
          have hfz17_3 := blk_frozen BK183.out 3
          have hfz17_4 := blk_frozen BK183.out 4
          have hfz17_5 := blk_frozen BK183.out 5
          go_wp2
          go_meet
          case rel => exact ⟨_, (true), (by first | rfl | (simp; done) | (simp [*]; done)), H', ⟨by first | omega | exact Nat.le_refl _⟩, ⟨by (with_reducible repeat (first | refine blk_drewN ?_ _ | refine blk_drew ?_ | refine blk_alloc ?_ _)); exact BK183.out⟩, ⟨by (with_reducible repeat (first | refine blk_drewN ?_ _ | refine blk_drew ?_ | refine blk_alloc ?_ _)); exact BK184.out⟩, ⟨by repeat (first | (with_reducible first | exact HB.out | apply below_alloc | apply pw_below_drewN | apply below_drew1 | refine below_set ?_ GE183.out | refine below_set ?_ GE184.out) | exact HB.out)⟩⟩
        · rw [if_neg c15] at H
          have c15b0 : (a0_2 == 0) = false := beq_eq_false_iff_ne.mpr c15
          have c15b1 : (a0_2 != 0) = true := bne_iff_ne.mpr c15
          (first | rw [c15b0] | (simp only [i64_w, i32_w]; rw [c15b0]) | skip)
          have H' := Aside0.mk H
          clear H
          have hnb18 := NB183_184.out
          have hnc18 := NB184_183.out
          have hcz19_0 : w12.cell? ⟨gb183, 0, none⟩ = some (.int .i64 a0_0) := (blk_cell BK183.out 0).trans rfl
          have hcz19_1 : w12.cell? ⟨gb183, 1, none⟩ = some (.int .i64 a0_1) := (blk_cell BK183.out 1).trans rfl
          have hcz19_2 : w12.cell? ⟨gb183, 2, none⟩ = some (.int .i64 a0_2) := (blk_cell BK183.out 2).trans rfl
          have hcz19_3 : w12.cell? ⟨gb183, 3, none⟩ = some (.int .i64 a0_3) := (blk_cell BK183.out 3).trans rfl
          have hcz19_4 : w12.cell? ⟨gb183, 4, none⟩ = some (.int .i64 a0_4) := (blk_cell BK183.out 4).trans rfl
          have hcz19_5 : w12.cell? ⟨gb183, 5, none⟩ = some (.string a0_5) := (blk_cell BK183.out 5).trans rfl
          have hfz19_0 := blk_frozen BK183.out 0
          have hfz19_1 := blk_frozen BK183.out 1
          have hfz19_2 := blk_frozen BK183.out 2
          have hfz19_3 := blk_frozen BK183.out 3
          have hfz19_4 := blk_frozen BK183.out 4
          have hfz19_5 := blk_frozen BK183.out 5
          have hcz20_0 : w12.cell? ⟨gb184, 0, none⟩ = some (.int .i64 a1_0) := (blk_cell BK184.out 0).trans rfl
          have hcz20_1 : w12.cell? ⟨gb184, 1, none⟩ = some (.int .i64 a1_1) := (blk_cell BK184.out 1).trans rfl
          have hcz20_2 : w12.cell? ⟨gb184, 2, none⟩ = some (.int .i64 a1_2) := (blk_cell BK184.out 2).trans rfl
          have hcz20_3 : w12.cell? ⟨gb184, 3, none⟩ = some (.int .i64 a1_3) := (blk_cell BK184.out 3).trans rfl
          have hcz20_4 : w12.cell? ⟨gb184, 4, none⟩ = some (.int .i64 a1_4) := (blk_cell BK184.out 4).trans rfl
          have hcz20_5 : w12.cell? ⟨gb184, 5, none⟩ = some (.string a1_5) := (blk_cell BK184.out 5).trans rfl
          have hfz20_0 := blk_frozen BK184.out 0
          have hfz20_1 := blk_frozen BK184.out 1
          have hfz20_2 := blk_frozen BK184.out 2
          have hfz20_3 := blk_frozen BK184.out 3
          have hfz20_4 := blk_frozen BK184.out 4
          have hfz20_5 := blk_frozen BK184.out 5
          go_wp2
          go_meet
          case rel => exact ⟨_, ((a1_2 == 0)), (by first | rfl | (simp; done) | (simp [*]; done)), H', ⟨by first | omega | exact Nat.le_refl _⟩, ⟨by (with_reducible repeat (first | refine blk_drewN ?_ _ | refine blk_drew ?_ | refine blk_alloc ?_ _)); exact BK183.out⟩, ⟨by (with_reducible repeat (first | refine blk_drewN ?_ _ | refine blk_drew ?_ | refine blk_alloc ?_ _)); exact BK184.out⟩, ⟨by repeat (first | (with_reducible first | exact HB.out | apply below_alloc | apply pw_below_drewN | apply below_drew1 | refine below_set ?_ GE183.out | refine below_set ?_ GE184.out) | exact HB.out)⟩⟩
      · replace c14 := Bool.eq_false_iff.mpr c14
        subst c14
        have H1 : (colloquyref05_Interfere.j0 k true a0_0 a0_1 a0_2 a0_3 a0_4 a0_5 a1_0 a1_1 a1_2 a1_3 a1_4 a1_5) = some r := by rw [if_neg (show ¬ (false = true) by decide)] at H; exact H
        clear H
        have H := H1
        clear H1
        have H' := Aside0.mk H
        clear H
        go_wp2
        go_meet
        case rel => exact ⟨_, (true), (by first | rfl | (simp; done) | (simp [*]; done)), H', ⟨by first | omega | exact Nat.le_refl _⟩, ⟨by (with_reducible repeat (first | refine blk_drewN ?_ _ | refine blk_drew ?_ | refine blk_alloc ?_ _)); exact BK183.out⟩, ⟨by (with_reducible repeat (first | refine blk_drewN ?_ _ | refine blk_drew ?_ | refine blk_alloc ?_ _)); exact BK184.out⟩, ⟨by repeat (first | (with_reducible first | exact HB.out | apply below_alloc | apply pw_below_drewN | apply below_drew1 | refine below_set ?_ GE183.out | refine below_set ?_ GE184.out) | exact HB.out)⟩⟩
    · replace c13 := Bool.eq_false_iff.mpr c13
      subst c13
      have H1 : (colloquyref05_Interfere.j0 k true a0_0 a0_1 a0_2 a0_3 a0_4 a0_5 a1_0 a1_1 a1_2 a1_3 a1_4 a1_5) = some r := by rw [if_neg (show ¬ (false = true) by decide)] at H; exact H
      clear H
      have H := H1
      clear H1
      have H' := Aside0.mk H
      clear H
      go_wp2
      go_meet
      case rel => exact ⟨_, (true), (by first | rfl | (simp; done) | (simp [*]; done)), H', ⟨by first | omega | exact Nat.le_refl _⟩, ⟨by (with_reducible repeat (first | refine blk_drewN ?_ _ | refine blk_drew ?_ | refine blk_alloc ?_ _)); exact BK183.out⟩, ⟨by (with_reducible repeat (first | refine blk_drewN ?_ _ | refine blk_drew ?_ | refine blk_alloc ?_ _)); exact BK184.out⟩, ⟨by repeat (first | (with_reducible first | exact HB.out | apply below_alloc | apply pw_below_drewN | apply below_drew1 | refine below_set ?_ GE183.out | refine below_set ?_ GE184.out) | exact HB.out)⟩⟩
  case rest =>
    clear HC5
    try clear c1
    try clear c2
    try clear p2
    try clear c8
    try clear c13
    try clear c14
    try clear c15
    try clear c15b0
    try clear c15b1
    try clear c16
    try clear c18
    try clear hcz11_0
    try clear hcz11_1
    try clear hcz11_2
    try clear hcz11_3
    try clear hcz11_4
    try clear hcz11_5
    try clear hcz17_0
    try clear hcz17_1
    try clear hcz17_2
    try clear hcz17_3
    try clear hcz17_4
    try clear hcz17_5
    try clear hcz19_0
    try clear hcz19_1
    try clear hcz19_2
    try clear hcz19_3
    try clear hcz19_4
    try clear hcz19_5
    try clear hcz20_0
    try clear hcz20_1
    try clear hcz20_2
    try clear hcz20_3
    try clear hcz20_4
    try clear hcz20_5
    try clear hcz9_0
    try clear hcz9_1
    try clear hcz9_2
    try clear hcz9_3
    try clear hcz9_4
    try clear hcz9_5
    try clear hfz11_0
    try clear hfz11_1
    try clear hfz11_2
    try clear hfz11_3
    try clear hfz11_4
    try clear hfz11_5
    try clear hfz17_0
    try clear hfz17_1
    try clear hfz17_2
    try clear hfz17_3
    try clear hfz17_4
    try clear hfz17_5
    try clear hfz19_0
    try clear hfz19_1
    try clear hfz19_2
    try clear hfz19_3
    try clear hfz19_4
    try clear hfz19_5
    try clear hfz20_0
    try clear hfz20_1
    try clear hfz20_2
    try clear hfz20_3
    try clear hfz20_4
    try clear hfz20_5
    try clear hfz9_0
    try clear hfz9_1
    try clear hfz9_2
    try clear hfz9_3
    try clear hfz9_4
    try clear hfz9_5
    obtain ⟨kq, x28_4, rfl, HA, HJ4, BK183, BK184, HB⟩ := hcut
    cases kq with
    | zero => exact absurd HA.out (by simp [colloquyref05_Interfere.j0])
    | succ kj4 =>
      have H := HA.out
      clear HA
      simp only [colloquyref05_Interfere.j0] at H
      by_cases c21 : x28_4 = true
      · subst c21
        have H1 : (some false) = some r := by rw [if_pos rfl] at H; exact H
        clear H
        have H := H1
        clear H1
        obtain rfl := Option.some.inj H
        go_wp2
        go_ret
        exact ⟨by first | rfl | (simp [errW_none, errW_some] <;> rfl) | (simp [*, errW_none, errW_some] <;> rfl), by repeat (first | (with_reducible first | exact HB.out | apply below_alloc | apply pw_below_drewN | apply below_drew1 | refine below_set ?_ GE183.out | refine below_set ?_ GE184.out) | exact HB.out)⟩
      · replace c21 := Bool.eq_false_iff.mpr c21
        subst c21
        have H1 : ((colloquyref04_Reads.f a0_0 a0_1 a0_2 a0_3 a0_4 a0_5).bind fun t187 => ((colloquyref04_Reads.f a1_0 a1_1 a1_2 a1_3 a1_4 a1_5).bind fun t188 => (if a0_0 = a1_0 then (some true) else (if a0_3 = a1_3 then (if t187 = true then (some (!t188)) else (some true)) else (some false))))) = some r := by rw [if_neg (show ¬ (false = true) by decide)] at H; exact H
        clear H
        have H := H1
        clear H1
        replace H := Option.bind_eq_some_iff.mp H
        obtain ⟨t187, A220, H⟩ := H
        replace H : ((colloquyref04_Reads.f a1_0 a1_1 a1_2 a1_3 a1_4 a1_5).bind fun t188 => (if a0_0 = a1_0 then (some true) else (if a0_3 = a1_3 then (if t187 = true then (some (!t188)) else (some true)) else (some false)))) = some r := H
        have A22 := Aside0.mk A220
        clear A220
        replace H := Option.bind_eq_some_iff.mp H
        obtain ⟨t188, A230, H⟩ := H
        replace H : (if a0_0 = a1_0 then (some true) else (if a0_3 = a1_3 then (if t187 = true then (some (!t188)) else (some true)) else (some false))) = some r := H
        have A23 := Aside0.mk A230
        clear A230
        by_cases c24 : a0_0 = a1_0
        · rw [if_pos c24] at H
          have c24b0 : (a0_0 == a1_0) = true := beq_iff_eq.mpr c24
          have c24b1 : (a0_0 != a1_0) = false := bne_eq_false_iff_eq.mpr c24
          clear c24
          obtain rfl := Option.some.inj H
          have hnb25 := NB183_184.out
          have hnc25 := NB184_183.out
          have hcz26_0 : wc.cell? ⟨gb183, 0, none⟩ = some (.int .i64 a0_0) := (blk_cell BK183.out 0).trans rfl
          have hcz26_1 : wc.cell? ⟨gb183, 1, none⟩ = some (.int .i64 a0_1) := (blk_cell BK183.out 1).trans rfl
          have hcz26_2 : wc.cell? ⟨gb183, 2, none⟩ = some (.int .i64 a0_2) := (blk_cell BK183.out 2).trans rfl
          have hcz26_3 : wc.cell? ⟨gb183, 3, none⟩ = some (.int .i64 a0_3) := (blk_cell BK183.out 3).trans rfl
          have hcz26_4 : wc.cell? ⟨gb183, 4, none⟩ = some (.int .i64 a0_4) := (blk_cell BK183.out 4).trans rfl
          have hcz26_5 : wc.cell? ⟨gb183, 5, none⟩ = some (.string a0_5) := (blk_cell BK183.out 5).trans rfl
          have hfz26_0 := blk_frozen BK183.out 0
          have hfz26_1 := blk_frozen BK183.out 1
          have hfz26_2 := blk_frozen BK183.out 2
          have hfz26_3 := blk_frozen BK183.out 3
          have hfz26_4 := blk_frozen BK183.out 4
          have hfz26_5 := blk_frozen BK183.out 5
          go_wp2_with (first | ((with_reducible refine gate_callee (f := 24) rfl ?_); refine goesL_ (some 30) rfl rfl Try.func24 (by kernel_rfl) rfl #[.agg #[.int .i64 a0_0, .int .i64 a0_1, .int .i64 a0_2, .int .i64 a0_3, .int .i64 a0_4, .string a0_5]] rfl (by (try simp only [List.map_toArray, List.map_cons, List.map_nil]); first | done | rfl | (simp only [List.length_drop, List.length_take]; rfl)) ?_; (with_reducible refine (colloquyref04_Reads.calls a0_0 a0_1 a0_2 a0_3 a0_4 a0_5 t187 _ A22.out).mono ?_); rintro e w27 ⟨rfl, hb⟩; refine ⟨_, rfl, ?_⟩; have n0_ := Aside0.mk (blk_below (g := gb183) (o := .cells #[.int .i64 a0_0, .int .i64 a0_1, .int .i64 a0_2, .int .i64 a0_3, .int .i64 a0_4, .string a0_5] 23 (0, 0)) (by (with_reducible repeat (first | refine blk_drewN ?_ _ | refine blk_drew ?_ | refine blk_alloc ?_ _)); exact BK183.out) hb); have n1_ := Aside0.mk (blk_below (g := gb184) (o := .cells #[.int .i64 a1_0, .int .i64 a1_1, .int .i64 a1_2, .int .i64 a1_3, .int .i64 a1_4, .string a1_5] 23 (0, 0)) (by (with_reducible repeat (first | refine blk_drewN ?_ _ | refine blk_drew ?_ | refine blk_alloc ?_ _)); exact BK184.out) hb); have n2_ := Aside0.mk (below_step (by repeat (first | (with_reducible first | exact HB.out | apply below_alloc | apply pw_below_drewN | apply below_drew1 | refine below_set ?_ GE183.out | refine below_set ?_ GE184.out) | exact HB.out)) hb); clear BK183; clear BK184; clear HB; have BK183 := n0_; have BK184 := n1_; have HB := n2_; clear n0_ n1_ n2_; (try clear hb); (try clear hb2); (try clear hk); (try clear hi); have hcz28_0 : w27.cell? ⟨gb184, 0, none⟩ = some (.int .i64 a1_0) := (blk_cell BK184.out 0).trans rfl; have hcz28_1 : w27.cell? ⟨gb184, 1, none⟩ = some (.int .i64 a1_1) := (blk_cell BK184.out 1).trans rfl; have hcz28_2 : w27.cell? ⟨gb184, 2, none⟩ = some (.int .i64 a1_2) := (blk_cell BK184.out 2).trans rfl; have hcz28_3 : w27.cell? ⟨gb184, 3, none⟩ = some (.int .i64 a1_3) := (blk_cell BK184.out 3).trans rfl; have hcz28_4 : w27.cell? ⟨gb184, 4, none⟩ = some (.int .i64 a1_4) := (blk_cell BK184.out 4).trans rfl; have hcz28_5 : w27.cell? ⟨gb184, 5, none⟩ = some (.string a1_5) := (blk_cell BK184.out 5).trans rfl; have hfz28_0 := blk_frozen BK184.out 0; have hfz28_1 := blk_frozen BK184.out 1; have hfz28_2 := blk_frozen BK184.out 2; have hfz28_3 := blk_frozen BK184.out 3; have hfz28_4 := blk_frozen BK184.out 4; have hfz28_5 := blk_frozen BK184.out 5) | ((with_reducible refine gate_callee (f := 24) rfl ?_); refine goesL_ (some 32) rfl rfl Try.func24 (by kernel_rfl) rfl #[.agg #[.int .i64 a1_0, .int .i64 a1_1, .int .i64 a1_2, .int .i64 a1_3, .int .i64 a1_4, .string a1_5]] rfl (by (try simp only [List.map_toArray, List.map_cons, List.map_nil]); first | done | rfl | (simp only [List.length_drop, List.length_take]; rfl)) ?_; (with_reducible refine (colloquyref04_Reads.calls a1_0 a1_1 a1_2 a1_3 a1_4 a1_5 t188 _ A23.out).mono ?_); rintro e w29 ⟨rfl, hb⟩; refine ⟨_, rfl, ?_⟩; have n0_ := Aside0.mk (blk_below (g := gb183) (o := .cells #[.int .i64 a0_0, .int .i64 a0_1, .int .i64 a0_2, .int .i64 a0_3, .int .i64 a0_4, .string a0_5] 23 (0, 0)) (by (with_reducible repeat (first | refine blk_drewN ?_ _ | refine blk_drew ?_ | refine blk_alloc ?_ _)); exact BK183.out) hb); have n1_ := Aside0.mk (blk_below (g := gb184) (o := .cells #[.int .i64 a1_0, .int .i64 a1_1, .int .i64 a1_2, .int .i64 a1_3, .int .i64 a1_4, .string a1_5] 23 (0, 0)) (by (with_reducible repeat (first | refine blk_drewN ?_ _ | refine blk_drew ?_ | refine blk_alloc ?_ _)); exact BK184.out) hb); have n2_ := Aside0.mk (below_step (by repeat (first | (with_reducible first | exact HB.out | apply below_alloc | apply pw_below_drewN | apply below_drew1 | refine below_set ?_ GE183.out | refine below_set ?_ GE184.out) | exact HB.out)) hb); clear BK183; clear BK184; clear HB; have BK183 := n0_; have BK184 := n1_; have HB := n2_; clear n0_ n1_ n2_; (try clear hb); (try clear hb2); (try clear hk); (try clear hi); have hcz30_0 : w29.cell? ⟨gb183, 0, none⟩ = some (.int .i64 a0_0) := (blk_cell BK183.out 0).trans rfl; have hcz30_1 : w29.cell? ⟨gb183, 1, none⟩ = some (.int .i64 a0_1) := (blk_cell BK183.out 1).trans rfl; have hcz30_2 : w29.cell? ⟨gb183, 2, none⟩ = some (.int .i64 a0_2) := (blk_cell BK183.out 2).trans rfl; have hcz30_3 : w29.cell? ⟨gb183, 3, none⟩ = some (.int .i64 a0_3) := (blk_cell BK183.out 3).trans rfl; have hcz30_4 : w29.cell? ⟨gb183, 4, none⟩ = some (.int .i64 a0_4) := (blk_cell BK183.out 4).trans rfl; have hcz30_5 : w29.cell? ⟨gb183, 5, none⟩ = some (.string a0_5) := (blk_cell BK183.out 5).trans rfl; have hfz30_0 := blk_frozen BK183.out 0; have hfz30_1 := blk_frozen BK183.out 1; have hfz30_2 := blk_frozen BK183.out 2; have hfz30_3 := blk_frozen BK183.out 3; have hfz30_4 := blk_frozen BK183.out 4; have hfz30_5 := blk_frozen BK183.out 5; have hcz31_0 : w29.cell? ⟨gb184, 0, none⟩ = some (.int .i64 a1_0) := (blk_cell BK184.out 0).trans rfl; have hcz31_1 : w29.cell? ⟨gb184, 1, none⟩ = some (.int .i64 a1_1) := (blk_cell BK184.out 1).trans rfl; have hcz31_2 : w29.cell? ⟨gb184, 2, none⟩ = some (.int .i64 a1_2) := (blk_cell BK184.out 2).trans rfl; have hcz31_3 : w29.cell? ⟨gb184, 3, none⟩ = some (.int .i64 a1_3) := (blk_cell BK184.out 3).trans rfl; have hcz31_4 : w29.cell? ⟨gb184, 4, none⟩ = some (.int .i64 a1_4) := (blk_cell BK184.out 4).trans rfl; have hcz31_5 : w29.cell? ⟨gb184, 5, none⟩ = some (.string a1_5) := (blk_cell BK184.out 5).trans rfl; have hfz31_0 := blk_frozen BK184.out 0; have hfz31_1 := blk_frozen BK184.out 1; have hfz31_2 := blk_frozen BK184.out 2; have hfz31_3 := blk_frozen BK184.out 3; have hfz31_4 := blk_frozen BK184.out 4; have hfz31_5 := blk_frozen BK184.out 5))
          go_ret
          exact ⟨by first | rfl | (simp [errW_none, errW_some] <;> rfl) | (simp [*, errW_none, errW_some] <;> rfl), by repeat (first | (with_reducible first | exact HB.out | apply below_alloc | apply pw_below_drewN | apply below_drew1 | refine below_set ?_ GE183.out | refine below_set ?_ GE184.out) | exact HB.out)⟩
        · rw [if_neg c24] at H
          have c24b0 : (a0_0 == a1_0) = false := beq_eq_false_iff_ne.mpr c24
          have c24b1 : (a0_0 != a1_0) = true := bne_iff_ne.mpr c24
          by_cases c32 : a0_3 = a1_3
          · rw [if_pos c32] at H
            have c32b0 : (a0_3 == a1_3) = true := beq_iff_eq.mpr c32
            have c32b1 : (a0_3 != a1_3) = false := bne_eq_false_iff_eq.mpr c32
            clear c32
            by_cases c33 : t187 = true
            · subst c33
              have H1 : (some (!t188)) = some r := by rw [if_pos rfl] at H; exact H
              clear H
              have H := H1
              clear H1
              obtain rfl := Option.some.inj H
              have hnb34 := NB183_184.out
              have hnc34 := NB184_183.out
              have hcz35_0 : wc.cell? ⟨gb183, 0, none⟩ = some (.int .i64 a0_0) := (blk_cell BK183.out 0).trans rfl
              have hcz35_1 : wc.cell? ⟨gb183, 1, none⟩ = some (.int .i64 a0_1) := (blk_cell BK183.out 1).trans rfl
              have hcz35_2 : wc.cell? ⟨gb183, 2, none⟩ = some (.int .i64 a0_2) := (blk_cell BK183.out 2).trans rfl
              have hcz35_3 : wc.cell? ⟨gb183, 3, none⟩ = some (.int .i64 a0_3) := (blk_cell BK183.out 3).trans rfl
              have hcz35_4 : wc.cell? ⟨gb183, 4, none⟩ = some (.int .i64 a0_4) := (blk_cell BK183.out 4).trans rfl
              have hcz35_5 : wc.cell? ⟨gb183, 5, none⟩ = some (.string a0_5) := (blk_cell BK183.out 5).trans rfl
              have hfz35_0 := blk_frozen BK183.out 0
              have hfz35_1 := blk_frozen BK183.out 1
              have hfz35_2 := blk_frozen BK183.out 2
              have hfz35_3 := blk_frozen BK183.out 3
              have hfz35_4 := blk_frozen BK183.out 4
              have hfz35_5 := blk_frozen BK183.out 5
              go_wp2_with (first | ((with_reducible refine gate_callee (f := 24) rfl ?_); refine goesL_ (some 30) rfl rfl Try.func24 (by kernel_rfl) rfl #[.agg #[.int .i64 a0_0, .int .i64 a0_1, .int .i64 a0_2, .int .i64 a0_3, .int .i64 a0_4, .string a0_5]] rfl (by (try simp only [List.map_toArray, List.map_cons, List.map_nil]); first | done | rfl | (simp only [List.length_drop, List.length_take]; rfl)) ?_; (with_reducible refine (colloquyref04_Reads.calls a0_0 a0_1 a0_2 a0_3 a0_4 a0_5 true _ A22.out).mono ?_); rintro e w36 ⟨rfl, hb⟩; refine ⟨_, rfl, ?_⟩; have n0_ := Aside0.mk (blk_below (g := gb183) (o := .cells #[.int .i64 a0_0, .int .i64 a0_1, .int .i64 a0_2, .int .i64 a0_3, .int .i64 a0_4, .string a0_5] 23 (0, 0)) (by (with_reducible repeat (first | refine blk_drewN ?_ _ | refine blk_drew ?_ | refine blk_alloc ?_ _)); exact BK183.out) hb); have n1_ := Aside0.mk (blk_below (g := gb184) (o := .cells #[.int .i64 a1_0, .int .i64 a1_1, .int .i64 a1_2, .int .i64 a1_3, .int .i64 a1_4, .string a1_5] 23 (0, 0)) (by (with_reducible repeat (first | refine blk_drewN ?_ _ | refine blk_drew ?_ | refine blk_alloc ?_ _)); exact BK184.out) hb); have n2_ := Aside0.mk (below_step (by repeat (first | (with_reducible first | exact HB.out | apply below_alloc | apply pw_below_drewN | apply below_drew1 | refine below_set ?_ GE183.out | refine below_set ?_ GE184.out) | exact HB.out)) hb); clear BK183; clear BK184; clear HB; have BK183 := n0_; have BK184 := n1_; have HB := n2_; clear n0_ n1_ n2_; (try clear hb); (try clear hb2); (try clear hk); (try clear hi); have hcz37_0 : w36.cell? ⟨gb184, 0, none⟩ = some (.int .i64 a1_0) := (blk_cell BK184.out 0).trans rfl; have hcz37_1 : w36.cell? ⟨gb184, 1, none⟩ = some (.int .i64 a1_1) := (blk_cell BK184.out 1).trans rfl; have hcz37_2 : w36.cell? ⟨gb184, 2, none⟩ = some (.int .i64 a1_2) := (blk_cell BK184.out 2).trans rfl; have hcz37_3 : w36.cell? ⟨gb184, 3, none⟩ = some (.int .i64 a1_3) := (blk_cell BK184.out 3).trans rfl; have hcz37_4 : w36.cell? ⟨gb184, 4, none⟩ = some (.int .i64 a1_4) := (blk_cell BK184.out 4).trans rfl; have hcz37_5 : w36.cell? ⟨gb184, 5, none⟩ = some (.string a1_5) := (blk_cell BK184.out 5).trans rfl; have hfz37_0 := blk_frozen BK184.out 0; have hfz37_1 := blk_frozen BK184.out 1; have hfz37_2 := blk_frozen BK184.out 2; have hfz37_3 := blk_frozen BK184.out 3; have hfz37_4 := blk_frozen BK184.out 4; have hfz37_5 := blk_frozen BK184.out 5) | ((with_reducible refine gate_callee (f := 24) rfl ?_); refine goesL_ (some 32) rfl rfl Try.func24 (by kernel_rfl) rfl #[.agg #[.int .i64 a1_0, .int .i64 a1_1, .int .i64 a1_2, .int .i64 a1_3, .int .i64 a1_4, .string a1_5]] rfl (by (try simp only [List.map_toArray, List.map_cons, List.map_nil]); first | done | rfl | (simp only [List.length_drop, List.length_take]; rfl)) ?_; (with_reducible refine (colloquyref04_Reads.calls a1_0 a1_1 a1_2 a1_3 a1_4 a1_5 t188 _ A23.out).mono ?_); rintro e w38 ⟨rfl, hb⟩; refine ⟨_, rfl, ?_⟩; have n0_ := Aside0.mk (blk_below (g := gb183) (o := .cells #[.int .i64 a0_0, .int .i64 a0_1, .int .i64 a0_2, .int .i64 a0_3, .int .i64 a0_4, .string a0_5] 23 (0, 0)) (by (with_reducible repeat (first | refine blk_drewN ?_ _ | refine blk_drew ?_ | refine blk_alloc ?_ _)); exact BK183.out) hb); have n1_ := Aside0.mk (blk_below (g := gb184) (o := .cells #[.int .i64 a1_0, .int .i64 a1_1, .int .i64 a1_2, .int .i64 a1_3, .int .i64 a1_4, .string a1_5] 23 (0, 0)) (by (with_reducible repeat (first | refine blk_drewN ?_ _ | refine blk_drew ?_ | refine blk_alloc ?_ _)); exact BK184.out) hb); have n2_ := Aside0.mk (below_step (by repeat (first | (with_reducible first | exact HB.out | apply below_alloc | apply pw_below_drewN | apply below_drew1 | refine below_set ?_ GE183.out | refine below_set ?_ GE184.out) | exact HB.out)) hb); clear BK183; clear BK184; clear HB; have BK183 := n0_; have BK184 := n1_; have HB := n2_; clear n0_ n1_ n2_; (try clear hb); (try clear hb2); (try clear hk); (try clear hi); have hcz39_0 : w38.cell? ⟨gb183, 0, none⟩ = some (.int .i64 a0_0) := (blk_cell BK183.out 0).trans rfl; have hcz39_1 : w38.cell? ⟨gb183, 1, none⟩ = some (.int .i64 a0_1) := (blk_cell BK183.out 1).trans rfl; have hcz39_2 : w38.cell? ⟨gb183, 2, none⟩ = some (.int .i64 a0_2) := (blk_cell BK183.out 2).trans rfl; have hcz39_3 : w38.cell? ⟨gb183, 3, none⟩ = some (.int .i64 a0_3) := (blk_cell BK183.out 3).trans rfl; have hcz39_4 : w38.cell? ⟨gb183, 4, none⟩ = some (.int .i64 a0_4) := (blk_cell BK183.out 4).trans rfl; have hcz39_5 : w38.cell? ⟨gb183, 5, none⟩ = some (.string a0_5) := (blk_cell BK183.out 5).trans rfl; have hfz39_0 := blk_frozen BK183.out 0; have hfz39_1 := blk_frozen BK183.out 1; have hfz39_2 := blk_frozen BK183.out 2; have hfz39_3 := blk_frozen BK183.out 3; have hfz39_4 := blk_frozen BK183.out 4; have hfz39_5 := blk_frozen BK183.out 5; have hcz40_0 : w38.cell? ⟨gb184, 0, none⟩ = some (.int .i64 a1_0) := (blk_cell BK184.out 0).trans rfl; have hcz40_1 : w38.cell? ⟨gb184, 1, none⟩ = some (.int .i64 a1_1) := (blk_cell BK184.out 1).trans rfl; have hcz40_2 : w38.cell? ⟨gb184, 2, none⟩ = some (.int .i64 a1_2) := (blk_cell BK184.out 2).trans rfl; have hcz40_3 : w38.cell? ⟨gb184, 3, none⟩ = some (.int .i64 a1_3) := (blk_cell BK184.out 3).trans rfl; have hcz40_4 : w38.cell? ⟨gb184, 4, none⟩ = some (.int .i64 a1_4) := (blk_cell BK184.out 4).trans rfl; have hcz40_5 : w38.cell? ⟨gb184, 5, none⟩ = some (.string a1_5) := (blk_cell BK184.out 5).trans rfl; have hfz40_0 := blk_frozen BK184.out 0; have hfz40_1 := blk_frozen BK184.out 1; have hfz40_2 := blk_frozen BK184.out 2; have hfz40_3 := blk_frozen BK184.out 3; have hfz40_4 := blk_frozen BK184.out 4; have hfz40_5 := blk_frozen BK184.out 5))
              go_ret
              exact ⟨by first | rfl | (simp [errW_none, errW_some] <;> rfl) | (simp [*, errW_none, errW_some] <;> rfl), by repeat (first | (with_reducible first | exact HB.out | apply below_alloc | apply pw_below_drewN | apply below_drew1 | refine below_set ?_ GE183.out | refine below_set ?_ GE184.out) | exact HB.out)⟩
            · replace c33 := Bool.eq_false_iff.mpr c33
              subst c33
              have H1 : (some true) = some r := by rw [if_neg (show ¬ (false = true) by decide)] at H; exact H
              clear H
              have H := H1
              clear H1
              obtain rfl := Option.some.inj H
              have hnb41 := NB183_184.out
              have hnc41 := NB184_183.out
              have hcz42_0 : wc.cell? ⟨gb183, 0, none⟩ = some (.int .i64 a0_0) := (blk_cell BK183.out 0).trans rfl
              have hcz42_1 : wc.cell? ⟨gb183, 1, none⟩ = some (.int .i64 a0_1) := (blk_cell BK183.out 1).trans rfl
              have hcz42_2 : wc.cell? ⟨gb183, 2, none⟩ = some (.int .i64 a0_2) := (blk_cell BK183.out 2).trans rfl
              have hcz42_3 : wc.cell? ⟨gb183, 3, none⟩ = some (.int .i64 a0_3) := (blk_cell BK183.out 3).trans rfl
              have hcz42_4 : wc.cell? ⟨gb183, 4, none⟩ = some (.int .i64 a0_4) := (blk_cell BK183.out 4).trans rfl
              have hcz42_5 : wc.cell? ⟨gb183, 5, none⟩ = some (.string a0_5) := (blk_cell BK183.out 5).trans rfl
              have hfz42_0 := blk_frozen BK183.out 0
              have hfz42_1 := blk_frozen BK183.out 1
              have hfz42_2 := blk_frozen BK183.out 2
              have hfz42_3 := blk_frozen BK183.out 3
              have hfz42_4 := blk_frozen BK183.out 4
              have hfz42_5 := blk_frozen BK183.out 5
              go_wp2_with (first | ((with_reducible refine gate_callee (f := 24) rfl ?_); refine goesL_ (some 30) rfl rfl Try.func24 (by kernel_rfl) rfl #[.agg #[.int .i64 a0_0, .int .i64 a0_1, .int .i64 a0_2, .int .i64 a0_3, .int .i64 a0_4, .string a0_5]] rfl (by (try simp only [List.map_toArray, List.map_cons, List.map_nil]); first | done | rfl | (simp only [List.length_drop, List.length_take]; rfl)) ?_; (with_reducible refine (colloquyref04_Reads.calls a0_0 a0_1 a0_2 a0_3 a0_4 a0_5 false _ A22.out).mono ?_); rintro e w43 ⟨rfl, hb⟩; refine ⟨_, rfl, ?_⟩; have n0_ := Aside0.mk (blk_below (g := gb183) (o := .cells #[.int .i64 a0_0, .int .i64 a0_1, .int .i64 a0_2, .int .i64 a0_3, .int .i64 a0_4, .string a0_5] 23 (0, 0)) (by (with_reducible repeat (first | refine blk_drewN ?_ _ | refine blk_drew ?_ | refine blk_alloc ?_ _)); exact BK183.out) hb); have n1_ := Aside0.mk (blk_below (g := gb184) (o := .cells #[.int .i64 a1_0, .int .i64 a1_1, .int .i64 a1_2, .int .i64 a1_3, .int .i64 a1_4, .string a1_5] 23 (0, 0)) (by (with_reducible repeat (first | refine blk_drewN ?_ _ | refine blk_drew ?_ | refine blk_alloc ?_ _)); exact BK184.out) hb); have n2_ := Aside0.mk (below_step (by repeat (first | (with_reducible first | exact HB.out | apply below_alloc | apply pw_below_drewN | apply below_drew1 | refine below_set ?_ GE183.out | refine below_set ?_ GE184.out) | exact HB.out)) hb); clear BK183; clear BK184; clear HB; have BK183 := n0_; have BK184 := n1_; have HB := n2_; clear n0_ n1_ n2_; (try clear hb); (try clear hb2); (try clear hk); (try clear hi); have hcz44_0 : w43.cell? ⟨gb184, 0, none⟩ = some (.int .i64 a1_0) := (blk_cell BK184.out 0).trans rfl; have hcz44_1 : w43.cell? ⟨gb184, 1, none⟩ = some (.int .i64 a1_1) := (blk_cell BK184.out 1).trans rfl; have hcz44_2 : w43.cell? ⟨gb184, 2, none⟩ = some (.int .i64 a1_2) := (blk_cell BK184.out 2).trans rfl; have hcz44_3 : w43.cell? ⟨gb184, 3, none⟩ = some (.int .i64 a1_3) := (blk_cell BK184.out 3).trans rfl; have hcz44_4 : w43.cell? ⟨gb184, 4, none⟩ = some (.int .i64 a1_4) := (blk_cell BK184.out 4).trans rfl; have hcz44_5 : w43.cell? ⟨gb184, 5, none⟩ = some (.string a1_5) := (blk_cell BK184.out 5).trans rfl; have hfz44_0 := blk_frozen BK184.out 0; have hfz44_1 := blk_frozen BK184.out 1; have hfz44_2 := blk_frozen BK184.out 2; have hfz44_3 := blk_frozen BK184.out 3; have hfz44_4 := blk_frozen BK184.out 4; have hfz44_5 := blk_frozen BK184.out 5) | ((with_reducible refine gate_callee (f := 24) rfl ?_); refine goesL_ (some 32) rfl rfl Try.func24 (by kernel_rfl) rfl #[.agg #[.int .i64 a1_0, .int .i64 a1_1, .int .i64 a1_2, .int .i64 a1_3, .int .i64 a1_4, .string a1_5]] rfl (by (try simp only [List.map_toArray, List.map_cons, List.map_nil]); first | done | rfl | (simp only [List.length_drop, List.length_take]; rfl)) ?_; (with_reducible refine (colloquyref04_Reads.calls a1_0 a1_1 a1_2 a1_3 a1_4 a1_5 t188 _ A23.out).mono ?_); rintro e w45 ⟨rfl, hb⟩; refine ⟨_, rfl, ?_⟩; have n0_ := Aside0.mk (blk_below (g := gb183) (o := .cells #[.int .i64 a0_0, .int .i64 a0_1, .int .i64 a0_2, .int .i64 a0_3, .int .i64 a0_4, .string a0_5] 23 (0, 0)) (by (with_reducible repeat (first | refine blk_drewN ?_ _ | refine blk_drew ?_ | refine blk_alloc ?_ _)); exact BK183.out) hb); have n1_ := Aside0.mk (blk_below (g := gb184) (o := .cells #[.int .i64 a1_0, .int .i64 a1_1, .int .i64 a1_2, .int .i64 a1_3, .int .i64 a1_4, .string a1_5] 23 (0, 0)) (by (with_reducible repeat (first | refine blk_drewN ?_ _ | refine blk_drew ?_ | refine blk_alloc ?_ _)); exact BK184.out) hb); have n2_ := Aside0.mk (below_step (by repeat (first | (with_reducible first | exact HB.out | apply below_alloc | apply pw_below_drewN | apply below_drew1 | refine below_set ?_ GE183.out | refine below_set ?_ GE184.out) | exact HB.out)) hb); clear BK183; clear BK184; clear HB; have BK183 := n0_; have BK184 := n1_; have HB := n2_; clear n0_ n1_ n2_; (try clear hb); (try clear hb2); (try clear hk); (try clear hi); have hcz46_0 : w45.cell? ⟨gb183, 0, none⟩ = some (.int .i64 a0_0) := (blk_cell BK183.out 0).trans rfl; have hcz46_1 : w45.cell? ⟨gb183, 1, none⟩ = some (.int .i64 a0_1) := (blk_cell BK183.out 1).trans rfl; have hcz46_2 : w45.cell? ⟨gb183, 2, none⟩ = some (.int .i64 a0_2) := (blk_cell BK183.out 2).trans rfl; have hcz46_3 : w45.cell? ⟨gb183, 3, none⟩ = some (.int .i64 a0_3) := (blk_cell BK183.out 3).trans rfl; have hcz46_4 : w45.cell? ⟨gb183, 4, none⟩ = some (.int .i64 a0_4) := (blk_cell BK183.out 4).trans rfl; have hcz46_5 : w45.cell? ⟨gb183, 5, none⟩ = some (.string a0_5) := (blk_cell BK183.out 5).trans rfl; have hfz46_0 := blk_frozen BK183.out 0; have hfz46_1 := blk_frozen BK183.out 1; have hfz46_2 := blk_frozen BK183.out 2; have hfz46_3 := blk_frozen BK183.out 3; have hfz46_4 := blk_frozen BK183.out 4; have hfz46_5 := blk_frozen BK183.out 5; have hcz47_0 : w45.cell? ⟨gb184, 0, none⟩ = some (.int .i64 a1_0) := (blk_cell BK184.out 0).trans rfl; have hcz47_1 : w45.cell? ⟨gb184, 1, none⟩ = some (.int .i64 a1_1) := (blk_cell BK184.out 1).trans rfl; have hcz47_2 : w45.cell? ⟨gb184, 2, none⟩ = some (.int .i64 a1_2) := (blk_cell BK184.out 2).trans rfl; have hcz47_3 : w45.cell? ⟨gb184, 3, none⟩ = some (.int .i64 a1_3) := (blk_cell BK184.out 3).trans rfl; have hcz47_4 : w45.cell? ⟨gb184, 4, none⟩ = some (.int .i64 a1_4) := (blk_cell BK184.out 4).trans rfl; have hcz47_5 : w45.cell? ⟨gb184, 5, none⟩ = some (.string a1_5) := (blk_cell BK184.out 5).trans rfl; have hfz47_0 := blk_frozen BK184.out 0; have hfz47_1 := blk_frozen BK184.out 1; have hfz47_2 := blk_frozen BK184.out 2; have hfz47_3 := blk_frozen BK184.out 3; have hfz47_4 := blk_frozen BK184.out 4; have hfz47_5 := blk_frozen BK184.out 5))
              go_ret
              exact ⟨by first | rfl | (simp [errW_none, errW_some] <;> rfl) | (simp [*, errW_none, errW_some] <;> rfl), by repeat (first | (with_reducible first | exact HB.out | apply below_alloc | apply pw_below_drewN | apply below_drew1 | refine below_set ?_ GE183.out | refine below_set ?_ GE184.out) | exact HB.out)⟩
          · rw [if_neg c32] at H
            have c32b0 : (a0_3 == a1_3) = false := beq_eq_false_iff_ne.mpr c32
            have c32b1 : (a0_3 != a1_3) = true := bne_iff_ne.mpr c32
            obtain rfl := Option.some.inj H
            have hnb48 := NB183_184.out
            have hnc48 := NB184_183.out
            have hcz49_0 : wc.cell? ⟨gb183, 0, none⟩ = some (.int .i64 a0_0) := (blk_cell BK183.out 0).trans rfl
            have hcz49_1 : wc.cell? ⟨gb183, 1, none⟩ = some (.int .i64 a0_1) := (blk_cell BK183.out 1).trans rfl
            have hcz49_2 : wc.cell? ⟨gb183, 2, none⟩ = some (.int .i64 a0_2) := (blk_cell BK183.out 2).trans rfl
            have hcz49_3 : wc.cell? ⟨gb183, 3, none⟩ = some (.int .i64 a0_3) := (blk_cell BK183.out 3).trans rfl
            have hcz49_4 : wc.cell? ⟨gb183, 4, none⟩ = some (.int .i64 a0_4) := (blk_cell BK183.out 4).trans rfl
            have hcz49_5 : wc.cell? ⟨gb183, 5, none⟩ = some (.string a0_5) := (blk_cell BK183.out 5).trans rfl
            have hfz49_0 := blk_frozen BK183.out 0
            have hfz49_1 := blk_frozen BK183.out 1
            have hfz49_2 := blk_frozen BK183.out 2
            have hfz49_3 := blk_frozen BK183.out 3
            have hfz49_4 := blk_frozen BK183.out 4
            have hfz49_5 := blk_frozen BK183.out 5
            go_wp2_with (first | ((with_reducible refine gate_callee (f := 24) rfl ?_); refine goesL_ (some 30) rfl rfl Try.func24 (by kernel_rfl) rfl #[.agg #[.int .i64 a0_0, .int .i64 a0_1, .int .i64 a0_2, .int .i64 a0_3, .int .i64 a0_4, .string a0_5]] rfl (by (try simp only [List.map_toArray, List.map_cons, List.map_nil]); first | done | rfl | (simp only [List.length_drop, List.length_take]; rfl)) ?_; (with_reducible refine (colloquyref04_Reads.calls a0_0 a0_1 a0_2 a0_3 a0_4 a0_5 t187 _ A22.out).mono ?_); rintro e w50 ⟨rfl, hb⟩; refine ⟨_, rfl, ?_⟩; have n0_ := Aside0.mk (blk_below (g := gb183) (o := .cells #[.int .i64 a0_0, .int .i64 a0_1, .int .i64 a0_2, .int .i64 a0_3, .int .i64 a0_4, .string a0_5] 23 (0, 0)) (by (with_reducible repeat (first | refine blk_drewN ?_ _ | refine blk_drew ?_ | refine blk_alloc ?_ _)); exact BK183.out) hb); have n1_ := Aside0.mk (blk_below (g := gb184) (o := .cells #[.int .i64 a1_0, .int .i64 a1_1, .int .i64 a1_2, .int .i64 a1_3, .int .i64 a1_4, .string a1_5] 23 (0, 0)) (by (with_reducible repeat (first | refine blk_drewN ?_ _ | refine blk_drew ?_ | refine blk_alloc ?_ _)); exact BK184.out) hb); have n2_ := Aside0.mk (below_step (by repeat (first | (with_reducible first | exact HB.out | apply below_alloc | apply pw_below_drewN | apply below_drew1 | refine below_set ?_ GE183.out | refine below_set ?_ GE184.out) | exact HB.out)) hb); clear BK183; clear BK184; clear HB; have BK183 := n0_; have BK184 := n1_; have HB := n2_; clear n0_ n1_ n2_; (try clear hb); (try clear hb2); (try clear hk); (try clear hi); have hcz51_0 : w50.cell? ⟨gb184, 0, none⟩ = some (.int .i64 a1_0) := (blk_cell BK184.out 0).trans rfl; have hcz51_1 : w50.cell? ⟨gb184, 1, none⟩ = some (.int .i64 a1_1) := (blk_cell BK184.out 1).trans rfl; have hcz51_2 : w50.cell? ⟨gb184, 2, none⟩ = some (.int .i64 a1_2) := (blk_cell BK184.out 2).trans rfl; have hcz51_3 : w50.cell? ⟨gb184, 3, none⟩ = some (.int .i64 a1_3) := (blk_cell BK184.out 3).trans rfl; have hcz51_4 : w50.cell? ⟨gb184, 4, none⟩ = some (.int .i64 a1_4) := (blk_cell BK184.out 4).trans rfl; have hcz51_5 : w50.cell? ⟨gb184, 5, none⟩ = some (.string a1_5) := (blk_cell BK184.out 5).trans rfl; have hfz51_0 := blk_frozen BK184.out 0; have hfz51_1 := blk_frozen BK184.out 1; have hfz51_2 := blk_frozen BK184.out 2; have hfz51_3 := blk_frozen BK184.out 3; have hfz51_4 := blk_frozen BK184.out 4; have hfz51_5 := blk_frozen BK184.out 5) | ((with_reducible refine gate_callee (f := 24) rfl ?_); refine goesL_ (some 32) rfl rfl Try.func24 (by kernel_rfl) rfl #[.agg #[.int .i64 a1_0, .int .i64 a1_1, .int .i64 a1_2, .int .i64 a1_3, .int .i64 a1_4, .string a1_5]] rfl (by (try simp only [List.map_toArray, List.map_cons, List.map_nil]); first | done | rfl | (simp only [List.length_drop, List.length_take]; rfl)) ?_; (with_reducible refine (colloquyref04_Reads.calls a1_0 a1_1 a1_2 a1_3 a1_4 a1_5 t188 _ A23.out).mono ?_); rintro e w52 ⟨rfl, hb⟩; refine ⟨_, rfl, ?_⟩; have n0_ := Aside0.mk (blk_below (g := gb183) (o := .cells #[.int .i64 a0_0, .int .i64 a0_1, .int .i64 a0_2, .int .i64 a0_3, .int .i64 a0_4, .string a0_5] 23 (0, 0)) (by (with_reducible repeat (first | refine blk_drewN ?_ _ | refine blk_drew ?_ | refine blk_alloc ?_ _)); exact BK183.out) hb); have n1_ := Aside0.mk (blk_below (g := gb184) (o := .cells #[.int .i64 a1_0, .int .i64 a1_1, .int .i64 a1_2, .int .i64 a1_3, .int .i64 a1_4, .string a1_5] 23 (0, 0)) (by (with_reducible repeat (first | refine blk_drewN ?_ _ | refine blk_drew ?_ | refine blk_alloc ?_ _)); exact BK184.out) hb); have n2_ := Aside0.mk (below_step (by repeat (first | (with_reducible first | exact HB.out | apply below_alloc | apply pw_below_drewN | apply below_drew1 | refine below_set ?_ GE183.out | refine below_set ?_ GE184.out) | exact HB.out)) hb); clear BK183; clear BK184; clear HB; have BK183 := n0_; have BK184 := n1_; have HB := n2_; clear n0_ n1_ n2_; (try clear hb); (try clear hb2); (try clear hk); (try clear hi); have hcz53_0 : w52.cell? ⟨gb183, 0, none⟩ = some (.int .i64 a0_0) := (blk_cell BK183.out 0).trans rfl; have hcz53_1 : w52.cell? ⟨gb183, 1, none⟩ = some (.int .i64 a0_1) := (blk_cell BK183.out 1).trans rfl; have hcz53_2 : w52.cell? ⟨gb183, 2, none⟩ = some (.int .i64 a0_2) := (blk_cell BK183.out 2).trans rfl; have hcz53_3 : w52.cell? ⟨gb183, 3, none⟩ = some (.int .i64 a0_3) := (blk_cell BK183.out 3).trans rfl; have hcz53_4 : w52.cell? ⟨gb183, 4, none⟩ = some (.int .i64 a0_4) := (blk_cell BK183.out 4).trans rfl; have hcz53_5 : w52.cell? ⟨gb183, 5, none⟩ = some (.string a0_5) := (blk_cell BK183.out 5).trans rfl; have hfz53_0 := blk_frozen BK183.out 0; have hfz53_1 := blk_frozen BK183.out 1; have hfz53_2 := blk_frozen BK183.out 2; have hfz53_3 := blk_frozen BK183.out 3; have hfz53_4 := blk_frozen BK183.out 4; have hfz53_5 := blk_frozen BK183.out 5; have hcz54_0 : w52.cell? ⟨gb184, 0, none⟩ = some (.int .i64 a1_0) := (blk_cell BK184.out 0).trans rfl; have hcz54_1 : w52.cell? ⟨gb184, 1, none⟩ = some (.int .i64 a1_1) := (blk_cell BK184.out 1).trans rfl; have hcz54_2 : w52.cell? ⟨gb184, 2, none⟩ = some (.int .i64 a1_2) := (blk_cell BK184.out 2).trans rfl; have hcz54_3 : w52.cell? ⟨gb184, 3, none⟩ = some (.int .i64 a1_3) := (blk_cell BK184.out 3).trans rfl; have hcz54_4 : w52.cell? ⟨gb184, 4, none⟩ = some (.int .i64 a1_4) := (blk_cell BK184.out 4).trans rfl; have hcz54_5 : w52.cell? ⟨gb184, 5, none⟩ = some (.string a1_5) := (blk_cell BK184.out 5).trans rfl; have hfz54_0 := blk_frozen BK184.out 0; have hfz54_1 := blk_frozen BK184.out 1; have hfz54_2 := blk_frozen BK184.out 2; have hfz54_3 := blk_frozen BK184.out 3; have hfz54_4 := blk_frozen BK184.out 4; have hfz54_5 := blk_frozen BK184.out 5))
            go_ret
            exact ⟨by first | rfl | (simp [errW_none, errW_some] <;> rfl) | (simp [*, errW_none, errW_some] <;> rfl), by repeat (first | (with_reducible first | exact HB.out | apply below_alloc | apply pw_below_drewN | apply below_drew1 | refine below_set ?_ GE183.out | refine below_set ?_ GE184.out) | exact HB.out)⟩

-- NOT PRINTED: function 32 (api_Cmd_32)

-- NOT PRINTED: function 25 (api_Cmd_25)

/-! ### keys_Any: function 16, by hand -/
-- making: yes
/-- the commands of a and b interfere -/
def interB (x y : S23) : Bool := (keysOf x.f0 x.f1 x.f2 x.f3 x.f4 x.f5).any fun k => (keysOf y.f0 y.f1 y.f2 y.f3 y.f4 y.f5).any fun q => meetB k q
theorem inter_eq (x y : S23) : keys_Interfere.f x.f0 x.f1 x.f2 x.f3 x.f4 x.f5 y.f0 y.f1 y.f2 y.f3 y.f4 y.f5 = some (interB x y) := rfl
def keys_Any.f (a0 a1 a2 a3 a4 : Int) (a5 : ByteArray) (l : List S23) : Option Bool := some (l.any fun y => interB ⟨a0, a1, a2, a3, a4, a5⟩ y)
set_option maxHeartbeats 8000000 in
set_option maxRecDepth 100000 in
/-- the closure: whether the command that it holds interferes with one more -/
theorem any1_calls (b : Nat) (x y : S23) (w : World) (hb : w.heap[b]? = some (.cells #[.int .i64 x.f0, .int .i64 x.f1, .int .i64 x.f2, .int .i64 x.f3, .int .i64 x.f4, .string x.f5] 23 (0, 0))) :
    Calls Try.prog 26 #[.agg #[.int .i64 y.f0, .int .i64 y.f1, .int .i64 y.f2, .int .i64 y.f3, .int .i64 y.f4, .string y.f5], .pointer (some ⟨b, 0, none⟩)] w fun e w' => e = .returned (.bool (interB x y)) ∧ Below w.heap.size w w' := by
  have hu := Try.underlying23
  have HM := Aside0.mk (inter_eq x y)
  have hk := blk_alloc hb (.cells #[.int .i64 y.f0, .int .i64 y.f1, .int .i64 y.f2, .int .i64 y.f3, .int .i64 y.f4, .string y.f5] 23)
  have q0 := blk_cell hk 0
  have q1 := blk_cell hk 1
  have q2 := blk_cell hk 2
  have q3 := blk_cell hk 3
  have q4 := blk_cell hk 4
  have q5 := blk_cell hk 5
  simp only [List.getElem?_toArray, List.getElem?_cons_zero, List.getElem?_cons_succ] at q0 q1 q2 q3 q4 q5
  have HB0 := Aside0.mk (below_alloc (Below.refl w.heap.size w) (.cells #[.int .i64 y.f0, .int .i64 y.f1, .int .i64 y.f2, .int .i64 y.f3, .int .i64 y.f4, .string y.f5] 23))
  clear hb hk
  go_enter Try.func26, Try.ntmps26
  go_wp2_with fail
  refine (keys_Interfere.calls _ _ _ _ _ _ _ _ _ _ _ _ _ _ HM.out).mono ?_
  rintro e w1 ⟨rfl, hb1⟩
  have HB := Aside0.mk (below_step HB0.out hb1)
  clear hb1
  go_wp2_with fail
  go_ret
  exact ⟨rfl, HB.out⟩
/-- where the first one is of which p holds; -1: there is none -/
def idxOfC (p : S23 → Bool) (l : List S23) : Int := match l.findIdx? p with | some i => (i : Int) | none => -1
theorem idxOfC_at (p : S23 → Bool) (l : List S23) (i : Nat) (hi : i < l.length) (h : ∀ x, x ∈ l.take i → p x = false) (hp : p l[i] = true) : idxOfC p l = i := by
  unfold idxOfC
  have : l.findIdx? p = some i := by
    rw [List.findIdx?_eq_some_iff_getElem]
    refine ⟨hi, hp, fun j hj => ?_⟩
    rw [h _ (List.mem_take_iff_getElem.2 ⟨j, by omega, rfl⟩)]; simp
  rw [this]
theorem idxOfC_none (p : S23 → Bool) (l : List S23) (h : ∀ x, x ∈ l → p x = false) : idxOfC p l = -1 := by
  unfold idxOfC
  rw [List.findIdx?_eq_none_iff.2 h]
theorem idxOfC_any (p : S23 → Bool) (l : List S23) : decide (0 ≤ idxOfC p l) = l.any p := by
  unfold idxOfC
  cases h : l.findIdx? p with
  | none =>
    rw [List.findIdx?_eq_none_iff] at h
    rw [List.any_eq_false.2 (fun x hx => by rw [h x hx]; simp)]; rfl
  | some i =>
    rw [List.findIdx?_eq_some_iff_getElem] at h
    obtain ⟨hi, hp, _⟩ := h
    rw [List.any_eq_true.2 ⟨l[i], List.getElem_mem hi, hp⟩]; simp
theorem rdTC_at (l : List S23) (j : Nat) (h : j < l.length) : rd_T23 l (j : Int) = l[j] := by
  unfold rd_T23; simp [List.getD_eq_getElem?_getD, List.getElem?_eq_getElem h]
set_option maxHeartbeats 8000000 in
set_option maxRecDepth 100000 in
theorem indexC_calls (b : Nat) (p : S23 → Bool) (A0 : Option Addr) (c0 : Nat) (l0 : List S23) (w : World) (hr0 : Kd.C k23 w A0 l0.length l0) (hc0 : l0.length ≤ c0) (hf : ∀ (W : World) (x : S23), Below w.heap.size w W → Calls Try.prog 26 #[.agg #[.int .i64 x.f0, .int .i64 x.f1, .int .i64 x.f2, .int .i64 x.f3, .int .i64 x.f4, .string x.f5], .pointer (some ⟨b, 0, none⟩)] W fun e W' => e = .returned (.bool (p x)) ∧ Below W.heap.size W W') :
    Calls Try.prog 32 #[.slice A0 l0.length c0, .func (.func 26) #[] #[.pointer (some ⟨b, 0, none⟩)]] w fun e w' => e = .returned (.int .i64 (idxOfC p l0)) ∧ Below w.heap.size w w' := by
  have hu := Try.underlying23
  have huS := Try.underlying33
  have HR := Aside0.mk hr0
  have HF := Aside0.mk hf
  have hlen : l0.length ≤ 9223372036854775807 := hr0.2.1
  clear hr0 hf
  go_enter Try.func32, Try.ntmps32
  go_wp2_with fail
  go_loopw [5, 8] (fun v5 v8 w' => ∃ i : Nat, i ≤ l0.length ∧ v8 = .int .i64 i ∧ Aside0 (∀ x, x ∈ l0.take i → p x = false) ∧ Aside0 (Below w.heap.size w w')) (fun _ v8 _ => l0.length - (intOf v8).toNat)
  case atStart => exact ⟨0, by omega, rfl, ⟨by simp⟩, ⟨Below.refl _ _⟩⟩
  case round =>
    obtain ⟨i, hi, rfl, HP, HB⟩ := hrel
    by_cases hlt : i < l0.length
    · obtain ⟨ad', e0, hx0, hx1, hx2, hx3, hx4, hx5⟩ := at_T23 (Kd.C_below HR.out HB.out) (i : Int) (by omega) (by omega)
      cases e0
      obtain ⟨y, hy⟩ : ∃ y, rd_T23 l0 (i : Int) = y := ⟨_, rfl⟩
      simp only [hy, Int.toNat_natCast] at hx0 hx1 hx2 hx3 hx4 hx5
      have HY : Aside0 (l0[i]'hlt = y) := ⟨by rw [← hy, rdTC_at l0 i hlt]⟩
      clear hy
      cases hp : p y with
      | true =>
        have hf' := HF.out wr y HB.out
        rw [hp] at hf'
        have HF' := Aside0.mk hf'
        have HP' : Aside0 (idxOfC p l0 = i) := ⟨idxOfC_at p l0 i hlt HP.out (by rw [HY.out]; exact hp)⟩
        clear hf' hp
        go_wp2_with fail
        refine HF'.out.mono ?_
        rintro e w1 ⟨rfl, hb1⟩
        have HB1 := Aside0.mk (below_step HB.out hb1)
        clear hb1
        go_wp2_with fail
        go_ret
        exact ⟨by rw [HP'.out]; rfl, HB1.out⟩
      | false =>
        have hf' := HF.out wr y HB.out
        rw [hp] at hf'
        have HF' := Aside0.mk hf'
        have HP' : Aside0 (∀ x, x ∈ l0.take (i + 1) → p x = false) := ⟨fun x hx => by
          rw [List.take_succ_eq_append_getElem hlt, List.mem_append, List.mem_singleton] at hx
          rcases hx with hx | rfl
          · exact HP.out x hx
          · rw [HY.out]; exact hp⟩
        clear hf' hp
        go_wp2_with fail
        refine HF'.out.mono ?_
        rintro e w1 ⟨rfl, hb1⟩
        have HB1 := Aside0.mk (below_step HB.out hb1)
        clear hb1
        go_wp2_with fail
        go_roundw
        case rel => exact ⟨i + 1, by omega, by go_num, HP', HB1⟩
        case measure => simp [intOf]; omega
    · go_wp2_with fail
      go_ret
      exact ⟨by rw [idxOfC_none p l0 (fun x hx => HP.out x (by rw [List.take_of_length_le (by omega)]; exact hx))]; rfl, HB.out⟩
set_option maxHeartbeats 8000000 in
set_option maxRecDepth 100000 in
theorem containsC_calls (b : Nat) (p : S23 → Bool) (A0 : Option Addr) (c0 : Nat) (l0 : List S23) (w : World) (hr0 : Kd.C k23 w A0 l0.length l0) (hc0 : l0.length ≤ c0) (hf : ∀ (W : World) (x : S23), Below w.heap.size w W → Calls Try.prog 26 #[.agg #[.int .i64 x.f0, .int .i64 x.f1, .int .i64 x.f2, .int .i64 x.f3, .int .i64 x.f4, .string x.f5], .pointer (some ⟨b, 0, none⟩)] W fun e W' => e = .returned (.bool (p x)) ∧ Below W.heap.size W W') :
    Calls Try.prog 25 #[.slice A0 l0.length c0, .func (.func 26) #[] #[.pointer (some ⟨b, 0, none⟩)]] w fun e w' => e = .returned (.bool (l0.any p)) ∧ Below w.heap.size w w' := by
  have HR := Aside0.mk hr0
  have HF := Aside0.mk hf
  have HA := Aside0.mk (idxOfC_any p l0)
  clear hr0 hf
  go_enter Try.func25, Try.ntmps25
  go_wp2_with fail
  refine (indexC_calls b p A0 c0 l0 _ HR.out hc0 HF.out).mono ?_
  rintro e w1 ⟨rfl, hb1⟩
  have HB1 := Aside0.mk hb1
  clear hb1
  go_wp2_with fail
  go_ret
  exact ⟨by rw [← HA.out]; rfl, HB1.out⟩
theorem keys_Any.calls (a0_0 : Int) (a0_1 : Int) (a0_2 : Int) (a0_3 : Int) (a0_4 : Int) (a0_5 : ByteArray) (A1 : Option Addr) (c1 : Nat) (l1 : List (S23)) (r : Bool) (w : World) (hr1 : Kd.C k23 w A1 l1.length l1) (hc1 : l1.length ≤ c1) (h : keys_Any.f a0_0 a0_1 a0_2 a0_3 a0_4 a0_5 l1 = some r) :
    Calls Try.prog 16 #[.agg #[.int .i64 a0_0, .int .i64 a0_1, .int .i64 a0_2, .int .i64 a0_3, .int .i64 a0_4, .string a0_5], .slice A1 l1.length c1] w fun e w' => e = .returned (.bool r) ∧ Below w.heap.size w w' := by
  have hu := Try.underlying23
  have huS := Try.underlying33
  obtain rfl := Option.some.inj h
  obtain ⟨x, hx⟩ : ∃ x : S23, (⟨a0_0, a0_1, a0_2, a0_3, a0_4, a0_5⟩ : S23) = x := ⟨_, rfl⟩
  have HB0 := Aside0.mk (below_alloc (Below.refl w.heap.size w) (.cells #[.int .i64 a0_0, .int .i64 a0_1, .int .i64 a0_2, .int .i64 a0_3, .int .i64 a0_4, .string a0_5] 23))
  have HN : Aside0 ((w.alloc (.cells #[.int .i64 a0_0, .int .i64 a0_1, .int .i64 a0_2, .int .i64 a0_3, .int .i64 a0_4, .string a0_5] 23)).heap[w.heap.size]? = some (.cells #[.int .i64 x.f0, .int .i64 x.f1, .int .i64 x.f2, .int .i64 x.f3, .int .i64 x.f4, .string x.f5] 23 (0, 0))) := ⟨by rw [← hx]; exact heap_alloc_new _ _⟩
  have HR := Aside0.mk (Kd.C_alloc hr1 (.cells #[.int .i64 a0_0, .int .i64 a0_1, .int .i64 a0_2, .int .i64 a0_3, .int .i64 a0_4, .string a0_5] 23))
  rw [hx]
  clear hr1 h hx
  go_enter Try.func16, Try.ntmps16
  go_wp2_with fail
  refine (containsC_calls _ (fun y => interB x y) A1 c1 l1 _ HR.out hc1 (fun W y hW => any1_calls _ x y W (blk_below HN.out hW))).mono ?_
  rintro e w3 ⟨rfl, hb3⟩
  have HB3 := Aside0.mk (below_step HB0.out hb3)
  clear hb3
  go_wp2_with fail
  go_ret
  exact ⟨rfl, HB3.out⟩

/-! ### colloquyref05_Any: function 17 -/
def colloquyref05_Any.l0 : Nat → List (S23) → Int → Int → Int → Int → Int → Int → ByteArray → Option (Bool)
  | 0, _, _, _, _, _, _, _, _ => none
  | k + 1, x1, x5, x190000, x190001, x190002, x190003, x190004, x190005 => if x5 < (x1.length : Int) then (if 0 ≤ x5 then ((colloquyref05_Interfere.f k x190000 x190001 x190002 x190003 x190004 x190005 ((rd_T23 x1 x5).f0) ((rd_T23 x1 x5).f1) ((rd_T23 x1 x5).f2) ((rd_T23 x1 x5).f3) ((rd_T23 x1 x5).f4) ((rd_T23 x1 x5).f5)).bind fun t191 => (if t191 = true then (some true) else (colloquyref05_Any.l0 k x1 (wrap64 (x5 + 1)) x190000 x190001 x190002 x190003 x190004 x190005))) else (none)) else (some false)
def colloquyref05_Any.f (k : Nat) (a0_0 : Int) (a0_1 : Int) (a0_2 : Int) (a0_3 : Int) (a0_4 : Int) (a0_5 : ByteArray) (l1 : List (S23)) : Option (Bool) := colloquyref05_Any.l0 k l1 0 a0_0 a0_1 a0_2 a0_3 a0_4 a0_5
theorem colloquyref05_Any.mono_l : ∀ k, (∀ y0 y1 y2 y3 y4 y5 y6 y7, LeO (colloquyref05_Any.l0 k y0 y1 y2 y3 y4 y5 y6 y7) (colloquyref05_Any.l0 (k + 1) y0 y1 y2 y3 y4 y5 y6 y7))
  | 0 => fun _ _ _ _ _ _ _ _ r h => by simp [colloquyref05_Any.l0] at h
  | k + 1 => by
    have ih0 := colloquyref05_Any.mono_l k
    · intro y0 y1 y2 y3 y4 y5 y6 y7
      unfold colloquyref05_Any.l0
      repeat' first
      | (with_reducible exact ih0 _ _ _ _ _ _ _ _)
      | (with_reducible exact colloquyref05_Interfere.mono _ _ _ _ _ _ _ _ _ _ _ _ _)
      | (with_reducible exact LeO.refl _)
      | (with_reducible exact LeO.none _)
      | (with_reducible refine LeO.ite ?_ ?_)
      | (with_reducible refine LeO.bind ?_ (fun _ => ?_))
      | exact ih0 _ _ _ _ _ _ _ _
      | exact colloquyref05_Interfere.mono _ _ _ _ _ _ _ _ _ _ _ _ _
      | exact LeO.none _
      | refine LeO.ite ?_ ?_
      | refine LeO.bind ?_ (fun _ => ?_)
theorem colloquyref05_Any.mono : ∀ a0 a1 a2 a3 a4 a5 a6 k, LeO (colloquyref05_Any.f k a0 a1 a2 a3 a4 a5 a6) (colloquyref05_Any.f (k + 1) a0 a1 a2 a3 a4 a5 a6) := by
  intro a0 a1 a2 a3 a4 a5 a6 k
  have ih0 := colloquyref05_Any.mono_l k
  unfold colloquyref05_Any.f
  repeat' first
      | (with_reducible exact ih0 _ _ _ _ _ _ _ _)
      | (with_reducible exact colloquyref05_Interfere.mono _ _ _ _ _ _ _ _ _ _ _ _ _)
      | (with_reducible exact LeO.refl _)
      | (with_reducible exact LeO.none _)
      | (with_reducible refine LeO.ite ?_ ?_)
      | (with_reducible refine LeO.bind ?_ (fun _ => ?_))
      | exact ih0 _ _ _ _ _ _ _ _
      | exact colloquyref05_Interfere.mono _ _ _ _ _ _ _ _ _ _ _ _ _
      | exact LeO.none _
      | refine LeO.ite ?_ ?_
      | refine LeO.bind ?_ (fun _ => ?_)
set_option maxHeartbeats 8000000 in
set_option maxRecDepth 100000 in
theorem colloquyref05_Any.calls (k : Nat) (a0_0 : Int) (a0_1 : Int) (a0_2 : Int) (a0_3 : Int) (a0_4 : Int) (a0_5 : ByteArray) (A1 : Option Addr) (c1 : Nat) (l1 : List (S23)) (r : Bool) (w : World) (hr1 : Kd.C k23 w A1 l1.length l1) (hc1 : l1.length ≤ c1) (h : colloquyref05_Any.f k a0_0 a0_1 a0_2 a0_3 a0_4 a0_5 l1 = some r) :
    Calls Try.prog 17 #[.agg #[.int .i64 a0_0, .int .i64 a0_1, .int .i64 a0_2, .int .i64 a0_3, .int .i64 a0_4, .string a0_5], .slice A1 l1.length c1] w fun e w' => e = .returned (.bool r) ∧ Below w.heap.size w w' := by
  have hu23 := Try.underlying23
  have HR1 := Aside0.mk hr1
  have HC1 := Aside0.mk hc1
  clear hr1 hc1
  have HB := Aside0.mk (Below.refl w.heap.size w)
  have H : (colloquyref05_Any.l0 k l1 0 a0_0 a0_1 a0_2 a0_3 a0_4 a0_5) = some r := h
  clear h
  have H' := Aside0.mk H
  clear H
  go_enter Try.func17, Try.ntmps17
  go_wp2_with (first | ((with_reducible refine gate_dst (N := 2) rfl ?_); refine box_event ?hg (N := 2) ?hd (cs := #[.int .i64 a0_0, .int .i64 a0_1, .int .i64 a0_2, .int .i64 a0_3, .int .i64 a0_4, .string a0_5]) (t := 23) ?hr ?_; (case hd => rfl); (case hg => rfl); (case hr => first | (go_simp; done) | (go_simp; rfl)); intro gb189 hg w3 hbox hb; have n0_ := Aside0.mk (below_step (by repeat (first | (with_reducible first | exact HB.out | apply below_alloc | apply pw_below_drewN | apply below_drew1) | exact HB.out)) hb); have n1_ := Aside0.mk (hbox); have n2_ := Aside0.mk ((by rw [hg]; exact (below_size (by repeat (first | (with_reducible first | exact HB.out | apply below_alloc | apply pw_below_drewN | apply below_drew1) | exact HB.out))) : w.heap.size ≤ gb189)); have n3_ := Aside0.mk ((by rw [hg]; exact (below_size (by repeat (first | (with_reducible first | exact HB.out | apply below_alloc | apply pw_below_drewN | apply below_drew1) | exact HB.out))) : w.heap.size ≤ gb189)); clear HB; have HB := n0_; have BK189 := n1_; have GW189 := n2_; have GE189 := n3_; clear n0_ n1_ n2_ n3_; clear hb hbox hg))
  go_loopg [5] k (fun kq v5 w' => ∃ (x5_1 : Int), v5 = .int .i64 x5_1 ∧ Aside0 (colloquyref05_Any.l0 kq l1 x5_1 a0_0 a0_1 a0_2 a0_3 a0_4 a0_5 = some r) ∧ Aside0 (kq ≤ k) ∧ Aside0 (w'.heap[gb189]? = some (.cells #[.int .i64 a0_0, .int .i64 a0_1, .int .i64 a0_2, .int .i64 a0_3, .int .i64 a0_4, .string a0_5] 23 (0, 0))) ∧ Aside0 (Below w.heap.size w w'))
  case atStart => exact ⟨(0), (by first | rfl | (simp; done) | (simp [*]; done)), H', ⟨Nat.le_refl _⟩, ⟨by (with_reducible repeat (first | refine blk_drewN ?_ _ | refine blk_drew ?_ | refine blk_alloc ?_ _)); exact BK189.out⟩, ⟨by repeat (first | (with_reducible first | exact HB.out | apply below_alloc | apply pw_below_drewN | apply below_drew1 | refine below_set ?_ GE189.out) | exact HB.out)⟩⟩
  case round =>
    clear H'
    try clear c1
    try clear p2
    obtain ⟨x5_1, rfl, HA, HK1, BK189, HB⟩ := hrel
    cases gk with
    | zero => exact absurd HA.out (by simp [colloquyref05_Any.l0])
    | succ k1 =>
      have H := HA.out
      clear HA
      simp only [colloquyref05_Any.l0] at H
      by_cases c4 : x5_1 < (l1.length : Int)
      · rw [if_pos c4] at H
        have c4b0 : decide (x5_1 < (l1.length : Int)) = true := decide_eq_true c4
        clear c4
        by_cases c5 : 0 ≤ x5_1
        · rw [if_pos c5] at H
          have c5b0 : decide (0 ≤ x5_1) = true := decide_eq_true c5
          clear c5
          replace H := Option.bind_eq_some_iff.mp H
          obtain ⟨t191, A60, H⟩ := H
          replace H : (if t191 = true then (some true) else (colloquyref05_Any.l0 k1 l1 (wrap64 (x5_1 + 1)) a0_0 a0_1 a0_2 a0_3 a0_4 a0_5)) = some r := H
          have A6 := Aside0.mk A60
          clear A60
          by_cases c7 : t191 = true
          · subst c7
            have H1 : (some true) = some r := by rw [if_pos rfl] at H; exact H
            clear H
            have H := H1
            clear H1
            obtain rfl := Option.some.inj H
            try go_wp2
            have n0_ := Aside0.mk (blk_drew BK189.out)
            have n1_ := Aside0.mk (below_drew1 HB.out)
            clear BK189
            clear HB
            have BK189 := n0_
            have HB := n1_
            clear n0_ n1_
            have p190 : 0 ≤ (x5_1 : Int) := of_decide_eq_true (by first | (with_reducible assumption) | assumption)
            have q190 : x5_1 < (l1.length : Int) := of_decide_eq_true (by first | (with_reducible assumption) | assumption)
            obtain ⟨ad190, e190, hx190_0, hx190_1, hx190_2, hx190_3, hx190_4, hx190_5⟩ := at_T23 HR1.out x5_1 p190 q190
            have hw190_5 := hx190_5
            have hw190_4 := hx190_4
            have hw190_3 := hx190_3
            have hw190_2 := hx190_2
            have hw190_1 := hx190_1
            have hw190_0 := hx190_0
            cases e190
            replace hx190_0 := (HB.out.cell (World.block_lt_of_cell? w _ hx190_0)).trans hx190_0
            replace hx190_1 := (HB.out.cell (World.block_lt_of_cell? w _ hx190_1)).trans hx190_1
            replace hx190_2 := (HB.out.cell (World.block_lt_of_cell? w _ hx190_2)).trans hx190_2
            replace hx190_3 := (HB.out.cell (World.block_lt_of_cell? w _ hx190_3)).trans hx190_3
            replace hx190_4 := (HB.out.cell (World.block_lt_of_cell? w _ hx190_4)).trans hx190_4
            replace hx190_5 := (HB.out.cell (World.block_lt_of_cell? w _ hx190_5)).trans hx190_5
            replace p190 := eq_true p190
            replace q190 := eq_true q190
            refine start_ (n := 7) (S := fun w' => w'.cell? ⟨gb189, 0, none⟩ = some (.int .i64 a0_0) ∧ w'.cell? ⟨gb189, 1, none⟩ = some (.int .i64 a0_1) ∧ w'.cell? ⟨gb189, 2, none⟩ = some (.int .i64 a0_2) ∧ w'.cell? ⟨gb189, 3, none⟩ = some (.int .i64 a0_3) ∧ w'.cell? ⟨gb189, 4, none⟩ = some (.int .i64 a0_4) ∧ w'.cell? ⟨gb189, 5, none⟩ = some (.string a0_5) ∧ w'.cell? (ad190.add ((x5_1).toNat * 6)) = some (.int .i64 ((rd_T23 l1 x5_1).f0)) ∧ w'.cell? ⟨(ad190.add ((x5_1).toNat * 6)).block, (ad190.add ((x5_1).toNat * 6)).off + 1, none⟩ = some (.int .i64 ((rd_T23 l1 x5_1).f1)) ∧ w'.cell? ⟨(ad190.add ((x5_1).toNat * 6)).block, (ad190.add ((x5_1).toNat * 6)).off + 2, none⟩ = some (.int .i64 ((rd_T23 l1 x5_1).f2)) ∧ w'.cell? ⟨(ad190.add ((x5_1).toNat * 6)).block, (ad190.add ((x5_1).toNat * 6)).off + 3, none⟩ = some (.int .i64 ((rd_T23 l1 x5_1).f3)) ∧ w'.cell? ⟨(ad190.add ((x5_1).toNat * 6)).block, (ad190.add ((x5_1).toNat * 6)).off + 4, none⟩ = some (.int .i64 ((rd_T23 l1 x5_1).f4)) ∧ w'.cell? ⟨(ad190.add ((x5_1).toNat * 6)).block, (ad190.add ((x5_1).toNat * 6)).off + 5, none⟩ = some (.string ((rd_T23 l1 x5_1).f5))) (ds := []) #[false, false, false, false, false, false, false] (by kernel_rfl) rfl rfl ⟨(blk_cell BK189.out 0).trans rfl, (blk_cell BK189.out 1).trans rfl, (blk_cell BK189.out 2).trans rfl, (blk_cell BK189.out 3).trans rfl, (blk_cell BK189.out 4).trans rfl, (blk_cell BK189.out 5).trans rfl, ((HB.out.cell (World.block_lt_of_cell? w _ hw190_0)).trans hw190_0), ((HB.out.cell (World.block_lt_of_cell? w _ hw190_1)).trans hw190_1), ((HB.out.cell (World.block_lt_of_cell? w _ hw190_2)).trans hw190_2), ((HB.out.cell (World.block_lt_of_cell? w _ hw190_3)).trans hw190_3), ((HB.out.cell (World.block_lt_of_cell? w _ hw190_4)).trans hw190_4), ((HB.out.cell (World.block_lt_of_cell? w _ hw190_5)).trans hw190_5)⟩ (fun hHeld => ?_)
            generalize wr.drew = w8 at BK189 HB hx190_0 hx190_1 hx190_2 hx190_3 hx190_4 hx190_5 hHeld ⊢
            refine pure_ (i := 1) (N := some 14) (v := ?_) (a' := ?_) #[false, true, false, false, false, false, false] rfl rfl (by kernel_rfl) (fun _ _ _ h => h) (Or.inl ⟨by rfl, ?_⟩) ?_ ?_
            rotate_left
            · intro w'
              go_simp
              with_reducible rfl
            rotate_left
            · simp only [Act.put, List.setIfInBounds_toArray, List.set_cons_zero, List.set_cons_succ, i64_w, i32_w]
              rfl
            refine pure_ (i := 2) (N := some 15) (v := ?_) (a' := ?_) #[false, true, true, false, false, false, false] rfl rfl (by kernel_rfl) (fun _ _ _ h => h) (Or.inl ⟨by rfl, ?_⟩) ?_ ?_
            rotate_left
            · intro w'
              go_simp
              with_reducible rfl
            rotate_left
            · simp only [Act.put, List.setIfInBounds_toArray, List.set_cons_zero, List.set_cons_succ, i64_w, i32_w]
              rfl
            refine pure_ (i := 3) (N := some 16) (v := ?_) (a' := ?_) #[false, true, true, true, false, false, false] rfl rfl (by kernel_rfl) (fun _ _ _ h => h) (Or.inl ⟨by rfl, ?_⟩) ?_ ?_
            rotate_left
            · intro w'
              go_simp
              with_reducible rfl
            rotate_left
            · simp only [Act.put, List.setIfInBounds_toArray, List.set_cons_zero, List.set_cons_succ, i64_w, i32_w]
              rfl
            refine take_ (i := 0) (N := some 13) (v := ?_) (a' := ?_) #[true, true, true, true, false, false, false] rfl rfl (by kernel_rfl) (fun _ _ _ h => h) (Or.inl ⟨by rfl, ?_⟩) hHeld ?_ ?_
            rotate_left
            · rintro w' ⟨s0, s1, s2, s3, s4, s5, s6, s7, s8, s9, s10, s11⟩
              go_simp
              with_reducible rfl
            rotate_left
            · simp only [Act.put, List.setIfInBounds_toArray, List.set_cons_zero, List.set_cons_succ, i64_w, i32_w]
              rfl
            refine take_ (i := 4) (N := some 17) (v := ?_) (a' := ?_) #[true, true, true, true, true, false, false] rfl rfl (by kernel_rfl) (fun _ _ _ h => h) (Or.inl ⟨by rfl, ?_⟩) hHeld ?_ ?_
            rotate_left
            · rintro w' ⟨s0, s1, s2, s3, s4, s5, s6, s7, s8, s9, s10, s11⟩
              go_simp
              with_reducible rfl
            rotate_left
            · simp only [Act.put, List.setIfInBounds_toArray, List.set_cons_zero, List.set_cons_succ, i64_w, i32_w]
              rfl
            refine one_ (i := 5) (N := some 18) #[true, true, true, true, true, true, false] rfl rfl (by kernel_rfl) (by decide) (fun K hK => ?_)
            refine goes_ Try.func15 (by kernel_rfl) rfl #[.agg #[.int .i64 a0_0, .int .i64 a0_1, .int .i64 a0_2, .int .i64 a0_3, .int .i64 a0_4, .string a0_5], .agg #[.int .i64 ((rd_T23 l1 x5_1).f0), .int .i64 ((rd_T23 l1 x5_1).f1), .int .i64 ((rd_T23 l1 x5_1).f2), .int .i64 ((rd_T23 l1 x5_1).f3), .int .i64 ((rd_T23 l1 x5_1).f4), .string ((rd_T23 l1 x5_1).f5)]] (by rfl) rfl rfl (by (try simp only [List.map_toArray, List.map_cons, List.map_nil]); first | done | rfl | (simp only [List.length_drop, List.length_take]; rfl)) ?_
            with_reducible refine (colloquyref05_Interfere.calls k1 a0_0 a0_1 a0_2 a0_3 a0_4 a0_5 ((rd_T23 l1 x5_1).f0) ((rd_T23 l1 x5_1).f1) ((rd_T23 l1 x5_1).f2) ((rd_T23 l1 x5_1).f3) ((rd_T23 l1 x5_1).f4) ((rd_T23 l1 x5_1).f5) true _ A6.out).mono ?_
            rintro e w9 ⟨rfl, hb⟩
            refine ⟨_, rfl, ?_⟩
            have n0_ := Aside0.mk (blk_below (g := gb189) (o := .cells #[.int .i64 a0_0, .int .i64 a0_1, .int .i64 a0_2, .int .i64 a0_3, .int .i64 a0_4, .string a0_5] 23 (0, 0)) (by (with_reducible repeat (first | refine blk_drewN ?_ _ | refine blk_drew ?_ | refine blk_alloc ?_ _)); exact BK189.out) hb)
            have n1_ := Aside0.mk (below_step (by repeat (first | (with_reducible first | exact HB.out | apply below_alloc | apply pw_below_drewN | apply below_drew1 | refine below_set ?_ GE189.out) | exact HB.out)) hb)
            clear BK189
            clear HB
            have BK189 := n0_
            have HB := n1_
            clear n0_ n1_
            (try clear hb)
            (try clear hb2)
            (try clear hk)
            (try clear hi)
            refine hK.out _ _ ⟨(blk_cell BK189.out 0).trans rfl, (blk_cell BK189.out 1).trans rfl, (blk_cell BK189.out 2).trans rfl, (blk_cell BK189.out 3).trans rfl, (blk_cell BK189.out 4).trans rfl, (blk_cell BK189.out 5).trans rfl, ((HB.out.cell (World.block_lt_of_cell? w _ hw190_0)).trans hw190_0), ((HB.out.cell (World.block_lt_of_cell? w _ hw190_1)).trans hw190_1), ((HB.out.cell (World.block_lt_of_cell? w _ hw190_2)).trans hw190_2), ((HB.out.cell (World.block_lt_of_cell? w _ hw190_3)).trans hw190_3), ((HB.out.cell (World.block_lt_of_cell? w _ hw190_4)).trans hw190_4), ((HB.out.cell (World.block_lt_of_cell? w _ hw190_5)).trans hw190_5)⟩ (fun hHeld => ?_)
            clear hK K
            refine norm_ (a' := ?_) ?_ ?_
            rotate_left
            · show Act.put _ (some 18) _ = _
              simp only [Act.put, List.setIfInBounds_toArray, List.set_cons_zero, List.set_cons_succ, i64_w, i32_w]
              rfl
            refine pure_ (i := 6) (N := some 6) (v := ?_) (a' := ?_) #[true, true, true, true, true, true, true] rfl rfl (by kernel_rfl) (fun _ _ _ h => h) (Or.inl ⟨by rfl, ?_⟩) ?_ ?_
            rotate_left
            · intro w'
              go_simp
              with_reducible rfl
            rotate_left
            · simp only [Act.put, List.setIfInBounds_toArray, List.set_cons_zero, List.set_cons_succ, i64_w, i32_w]
              rfl
            refine done_ (by kernel_rfl) ?_
            try go_wp2
            go_ret
            exact ⟨by first | rfl | (simp [errW_none, errW_some] <;> rfl) | (simp [*, errW_none, errW_some] <;> rfl), by repeat (first | (with_reducible first | exact HB.out | apply below_alloc | apply pw_below_drewN | apply below_drew1 | refine below_set ?_ GE189.out) | exact HB.out)⟩
          · replace c7 := Bool.eq_false_iff.mpr c7
            subst c7
            have H1 : (colloquyref05_Any.l0 k1 l1 (wrap64 (x5_1 + 1)) a0_0 a0_1 a0_2 a0_3 a0_4 a0_5) = some r := by rw [if_neg (show ¬ (false = true) by decide)] at H; exact H
            clear H
            have H := H1
            clear H1
            have H' := Aside0.mk H
            clear H
            try go_wp2
            have n0_ := Aside0.mk (blk_drew BK189.out)
            have n1_ := Aside0.mk (below_drew1 HB.out)
            clear BK189
            clear HB
            have BK189 := n0_
            have HB := n1_
            clear n0_ n1_
            have p190 : 0 ≤ (x5_1 : Int) := of_decide_eq_true (by first | (with_reducible assumption) | assumption)
            have q190 : x5_1 < (l1.length : Int) := of_decide_eq_true (by first | (with_reducible assumption) | assumption)
            obtain ⟨ad190, e190, hx190_0, hx190_1, hx190_2, hx190_3, hx190_4, hx190_5⟩ := at_T23 HR1.out x5_1 p190 q190
            have hw190_5 := hx190_5
            have hw190_4 := hx190_4
            have hw190_3 := hx190_3
            have hw190_2 := hx190_2
            have hw190_1 := hx190_1
            have hw190_0 := hx190_0
            cases e190
            replace hx190_0 := (HB.out.cell (World.block_lt_of_cell? w _ hx190_0)).trans hx190_0
            replace hx190_1 := (HB.out.cell (World.block_lt_of_cell? w _ hx190_1)).trans hx190_1
            replace hx190_2 := (HB.out.cell (World.block_lt_of_cell? w _ hx190_2)).trans hx190_2
            replace hx190_3 := (HB.out.cell (World.block_lt_of_cell? w _ hx190_3)).trans hx190_3
            replace hx190_4 := (HB.out.cell (World.block_lt_of_cell? w _ hx190_4)).trans hx190_4
            replace hx190_5 := (HB.out.cell (World.block_lt_of_cell? w _ hx190_5)).trans hx190_5
            replace p190 := eq_true p190
            replace q190 := eq_true q190
            refine start_ (n := 7) (S := fun w' => w'.cell? ⟨gb189, 0, none⟩ = some (.int .i64 a0_0) ∧ w'.cell? ⟨gb189, 1, none⟩ = some (.int .i64 a0_1) ∧ w'.cell? ⟨gb189, 2, none⟩ = some (.int .i64 a0_2) ∧ w'.cell? ⟨gb189, 3, none⟩ = some (.int .i64 a0_3) ∧ w'.cell? ⟨gb189, 4, none⟩ = some (.int .i64 a0_4) ∧ w'.cell? ⟨gb189, 5, none⟩ = some (.string a0_5) ∧ w'.cell? (ad190.add ((x5_1).toNat * 6)) = some (.int .i64 ((rd_T23 l1 x5_1).f0)) ∧ w'.cell? ⟨(ad190.add ((x5_1).toNat * 6)).block, (ad190.add ((x5_1).toNat * 6)).off + 1, none⟩ = some (.int .i64 ((rd_T23 l1 x5_1).f1)) ∧ w'.cell? ⟨(ad190.add ((x5_1).toNat * 6)).block, (ad190.add ((x5_1).toNat * 6)).off + 2, none⟩ = some (.int .i64 ((rd_T23 l1 x5_1).f2)) ∧ w'.cell? ⟨(ad190.add ((x5_1).toNat * 6)).block, (ad190.add ((x5_1).toNat * 6)).off + 3, none⟩ = some (.int .i64 ((rd_T23 l1 x5_1).f3)) ∧ w'.cell? ⟨(ad190.add ((x5_1).toNat * 6)).block, (ad190.add ((x5_1).toNat * 6)).off + 4, none⟩ = some (.int .i64 ((rd_T23 l1 x5_1).f4)) ∧ w'.cell? ⟨(ad190.add ((x5_1).toNat * 6)).block, (ad190.add ((x5_1).toNat * 6)).off + 5, none⟩ = some (.string ((rd_T23 l1 x5_1).f5))) (ds := []) #[false, false, false, false, false, false, false] (by kernel_rfl) rfl rfl ⟨(blk_cell BK189.out 0).trans rfl, (blk_cell BK189.out 1).trans rfl, (blk_cell BK189.out 2).trans rfl, (blk_cell BK189.out 3).trans rfl, (blk_cell BK189.out 4).trans rfl, (blk_cell BK189.out 5).trans rfl, ((HB.out.cell (World.block_lt_of_cell? w _ hw190_0)).trans hw190_0), ((HB.out.cell (World.block_lt_of_cell? w _ hw190_1)).trans hw190_1), ((HB.out.cell (World.block_lt_of_cell? w _ hw190_2)).trans hw190_2), ((HB.out.cell (World.block_lt_of_cell? w _ hw190_3)).trans hw190_3), ((HB.out.cell (World.block_lt_of_cell? w _ hw190_4)).trans hw190_4), ((HB.out.cell (World.block_lt_of_cell? w _ hw190_5)).trans hw190_5)⟩ (fun hHeld => ?_)
            generalize wr.drew = w10 at BK189 HB hx190_0 hx190_1 hx190_2 hx190_3 hx190_4 hx190_5 hHeld ⊢
            refine pure_ (i := 1) (N := some 14) (v := ?_) (a' := ?_) #[false, true, false, false, false, false, false] rfl rfl (by kernel_rfl) (fun _ _ _ h => h) (Or.inl ⟨by rfl, ?_⟩) ?_ ?_
            rotate_left
            · intro w'
              go_simp
              with_reducible rfl
            rotate_left
            · simp only [Act.put, List.setIfInBounds_toArray, List.set_cons_zero, List.set_cons_succ, i64_w, i32_w]
              rfl
            refine pure_ (i := 2) (N := some 15) (v := ?_) (a' := ?_) #[false, true, true, false, false, false, false] rfl rfl (by kernel_rfl) (fun _ _ _ h => h) (Or.inl ⟨by rfl, ?_⟩) ?_ ?_
            rotate_left
            · intro w'
              go_simp
              with_reducible rfl
            rotate_left
            · simp only [Act.put, List.setIfInBounds_toArray, List.set_cons_zero, List.set_cons_succ, i64_w, i32_w]
              rfl
            refine pure_ (i := 3) (N := some 16) (v := ?_) (a' := ?_) #[false, true, true, true, false, false, false] rfl rfl (by kernel_rfl) (fun _ _ _ h => h) (Or.inl ⟨by rfl, ?_⟩) ?_ ?_
            rotate_left
            · intro w'
              go_simp
              with_reducible rfl
            rotate_left
            · simp only [Act.put, List.setIfInBounds_toArray, List.set_cons_zero, List.set_cons_succ, i64_w, i32_w]
              rfl
            refine take_ (i := 0) (N := some 13) (v := ?_) (a' := ?_) #[true, true, true, true, false, false, false] rfl rfl (by kernel_rfl) (fun _ _ _ h => h) (Or.inl ⟨by rfl, ?_⟩) hHeld ?_ ?_
            rotate_left
            · rintro w' ⟨s0, s1, s2, s3, s4, s5, s6, s7, s8, s9, s10, s11⟩
              go_simp
              with_reducible rfl
            rotate_left
            · simp only [Act.put, List.setIfInBounds_toArray, List.set_cons_zero, List.set_cons_succ, i64_w, i32_w]
              rfl
            refine take_ (i := 4) (N := some 17) (v := ?_) (a' := ?_) #[true, true, true, true, true, false, false] rfl rfl (by kernel_rfl) (fun _ _ _ h => h) (Or.inl ⟨by rfl, ?_⟩) hHeld ?_ ?_
            rotate_left
            · rintro w' ⟨s0, s1, s2, s3, s4, s5, s6, s7, s8, s9, s10, s11⟩
              go_simp
              with_reducible rfl
            rotate_left
            · simp only [Act.put, List.setIfInBounds_toArray, List.set_cons_zero, List.set_cons_succ, i64_w, i32_w]
              rfl
            refine one_ (i := 5) (N := some 18) #[true, true, true, true, true, true, false] rfl rfl (by kernel_rfl) (by decide) (fun K hK => ?_)
            refine goes_ Try.func15 (by kernel_rfl) rfl #[.agg #[.int .i64 a0_0, .int .i64 a0_1, .int .i64 a0_2, .int .i64 a0_3, .int .i64 a0_4, .string a0_5], .agg #[.int .i64 ((rd_T23 l1 x5_1).f0), .int .i64 ((rd_T23 l1 x5_1).f1), .int .i64 ((rd_T23 l1 x5_1).f2), .int .i64 ((rd_T23 l1 x5_1).f3), .int .i64 ((rd_T23 l1 x5_1).f4), .string ((rd_T23 l1 x5_1).f5)]] (by rfl) rfl rfl (by (try simp only [List.map_toArray, List.map_cons, List.map_nil]); first | done | rfl | (simp only [List.length_drop, List.length_take]; rfl)) ?_
            with_reducible refine (colloquyref05_Interfere.calls k1 a0_0 a0_1 a0_2 a0_3 a0_4 a0_5 ((rd_T23 l1 x5_1).f0) ((rd_T23 l1 x5_1).f1) ((rd_T23 l1 x5_1).f2) ((rd_T23 l1 x5_1).f3) ((rd_T23 l1 x5_1).f4) ((rd_T23 l1 x5_1).f5) false _ A6.out).mono ?_
            rintro e w11 ⟨rfl, hb⟩
            refine ⟨_, rfl, ?_⟩
            have n0_ := Aside0.mk (blk_below (g := gb189) (o := .cells #[.int .i64 a0_0, .int .i64 a0_1, .int .i64 a0_2, .int .i64 a0_3, .int .i64 a0_4, .string a0_5] 23 (0, 0)) (by (with_reducible repeat (first | refine blk_drewN ?_ _ | refine blk_drew ?_ | refine blk_alloc ?_ _)); exact BK189.out) hb)
            have n1_ := Aside0.mk (below_step (by repeat (first | (with_reducible first | exact HB.out | apply below_alloc | apply pw_below_drewN | apply below_drew1 | refine below_set ?_ GE189.out) | exact HB.out)) hb)
            clear BK189
            clear HB
            have BK189 := n0_
            have HB := n1_
            clear n0_ n1_
            (try clear hb)
            (try clear hb2)
            (try clear hk)
            (try clear hi)
            refine hK.out _ _ ⟨(blk_cell BK189.out 0).trans rfl, (blk_cell BK189.out 1).trans rfl, (blk_cell BK189.out 2).trans rfl, (blk_cell BK189.out 3).trans rfl, (blk_cell BK189.out 4).trans rfl, (blk_cell BK189.out 5).trans rfl, ((HB.out.cell (World.block_lt_of_cell? w _ hw190_0)).trans hw190_0), ((HB.out.cell (World.block_lt_of_cell? w _ hw190_1)).trans hw190_1), ((HB.out.cell (World.block_lt_of_cell? w _ hw190_2)).trans hw190_2), ((HB.out.cell (World.block_lt_of_cell? w _ hw190_3)).trans hw190_3), ((HB.out.cell (World.block_lt_of_cell? w _ hw190_4)).trans hw190_4), ((HB.out.cell (World.block_lt_of_cell? w _ hw190_5)).trans hw190_5)⟩ (fun hHeld => ?_)
            clear hK K
            refine norm_ (a' := ?_) ?_ ?_
            rotate_left
            · show Act.put _ (some 18) _ = _
              simp only [Act.put, List.setIfInBounds_toArray, List.set_cons_zero, List.set_cons_succ, i64_w, i32_w]
              rfl
            refine pure_ (i := 6) (N := some 6) (v := ?_) (a' := ?_) #[true, true, true, true, true, true, true] rfl rfl (by kernel_rfl) (fun _ _ _ h => h) (Or.inl ⟨by rfl, ?_⟩) ?_ ?_
            rotate_left
            · intro w'
              go_simp
              with_reducible rfl
            rotate_left
            · simp only [Act.put, List.setIfInBounds_toArray, List.set_cons_zero, List.set_cons_succ, i64_w, i32_w]
              rfl
            refine done_ (by kernel_rfl) ?_
            try go_wp2
            go_roundg k1
            case measure => have := HK1.out; omega
            case rel => exact ⟨(wrap64 (x5_1 + 1)), (by first | rfl | (simp; done) | (simp [*]; done)), H', ⟨by have := HK1.out; omega⟩, ⟨by (with_reducible repeat (first | refine blk_drewN ?_ _ | refine blk_drew ?_ | refine blk_alloc ?_ _)); exact BK189.out⟩, ⟨by repeat (first | (with_reducible first | exact HB.out | apply below_alloc | apply pw_below_drewN | apply below_drew1 | refine below_set ?_ GE189.out) | exact HB.out)⟩⟩
        · rw [if_neg c5] at H
          exact absurd H (by simp)
      · rw [if_neg c4] at H
        have c4b0 : decide (x5_1 < (l1.length : Int)) = false := decide_eq_false c4
        clear c4
        obtain rfl := Option.some.inj H
        go_wp2
        go_ret
        exact ⟨by first | rfl | (simp [errW_none, errW_some] <;> rfl) | (simp [*, errW_none, errW_some] <;> rfl), by repeat (first | (with_reducible first | exact HB.out | apply below_alloc | apply pw_below_drewN | apply below_drew1 | refine below_set ?_ GE189.out) | exact HB.out)⟩

end Go.Proofs.Ytanhbhgmldpdkaa.P
