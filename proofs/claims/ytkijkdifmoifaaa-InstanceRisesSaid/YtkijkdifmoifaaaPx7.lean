/- Plain Lean functions and their contracts over the translation, written by a program of this session (myprint.py, over the kit's print); no condition but each contract's own. -/
import Derived.Test.YtkijkdifmoifaaaPx0
import Derived.Test.YtkijkdifmoifaaaPx3
import Derived.Test.YtkijkdifmoifaaaPx5
import Derived.Test.YtkijkdifmoifaaaPx6
namespace Go.Proofs.Ytkijkdifmoifaaa.P
open Go.RowKit Go.Proofs.YtkijkdifmoifaaaW.PrintWords Go.Proofs.YtkijkdifmoifaaaW.PrintLast Go.Proofs.YtkijkdifmoifaaaW.PrintMore
attribute [local go_sem] max2_int min2_int max_two min_two max_three min_three max_four min_four   -- for this text's walks alone
set_option linter.unusedVariables false
set_option linter.unusedSimpArgs false

abbrev colloquylaw09_InstanceRises.m0 : Array Bool := #[false, false, false, false, false, false, false, false, false, false, false, false]
abbrev colloquylaw09_InstanceRises.m1 : Array Bool := #[false, true, false, false, false, false, false, false, false, false, false, false]
abbrev colloquylaw09_InstanceRises.m2 : Array Bool := #[false, true, true, false, false, false, false, false, false, false, false, false]
abbrev colloquylaw09_InstanceRises.m3 : Array Bool := #[false, true, true, true, false, false, false, false, false, false, false, false]
abbrev colloquylaw09_InstanceRises.m4 : Array Bool := #[true, true, true, true, false, false, false, false, false, false, false, false]
abbrev colloquylaw09_InstanceRises.m5 : Array Bool := #[true, true, true, true, true, false, false, false, false, false, false, false]
abbrev colloquylaw09_InstanceRises.m6 : Array Bool := #[true, true, true, true, true, false, false, false, false, true, false, false]
abbrev colloquylaw09_InstanceRises.m7 : Array Bool := #[true, true, true, true, true, true, false, false, false, false, false, false]
abbrev colloquylaw09_InstanceRises.m8 : Array Bool := #[true, true, true, true, true, true, false, false, false, true, false, false]
abbrev colloquylaw09_InstanceRises.m9 : Array Bool := #[true, true, true, true, true, true, true, false, false, false, false, false]
abbrev colloquylaw09_InstanceRises.m10 : Array Bool := #[true, true, true, true, true, true, true, false, false, true, false, false]
abbrev colloquylaw09_InstanceRises.m11 : Array Bool := #[true, true, true, true, true, true, true, true, false, false, false, false]
abbrev colloquylaw09_InstanceRises.m12 : Array Bool := #[true, true, true, true, true, true, true, true, false, true, false, false]
abbrev colloquylaw09_InstanceRises.m13 : Array Bool := #[true, true, true, true, true, true, true, true, true, false, false, false]
abbrev colloquylaw09_InstanceRises.m14 : Array Bool := #[true, true, true, true, true, true, true, true, true, true, false, false]
abbrev colloquylaw09_InstanceRises.m15 : Array Bool := #[true, true, true, true, true, true, true, true, true, true, true, false]
abbrev colloquylaw09_InstanceRises.m16 : Array Bool := #[true, true, true, true, true, true, true, true, true, true, true, true]
mutual
def colloquylaw09_InstanceRises.j0 : Nat → List (S35) → Bool → Bool → Option (Bool)
  | 0, _, _, _ => none
  | k + 1, x0, x3, x16 => if x16 = true then (some x3) else (colloquylaw09_InstanceRises.l0 k x0 0 0 0 0 0 0 0 0 0 0 0 (⟨#[]⟩ : ByteArray) 0 ([] : List Int))
def colloquylaw09_InstanceRises.l0 : Nat → List (S35) → Int → Int → Int → Int → Int → Int → Int → Int → Int → Int → Int → ByteArray → Int → List Int → Option (Bool)
  | 0, _, _, _, _, _, _, _, _, _, _, _, _, _, _, _ => none
  | k + 1, x0, x5, x449000, x449001, x449002, x449003, x449004, x449005, x449006, x449007, x449008, x449009, x449010, x449011, x449012 => if x5 < (x0.length : Int) then (if 0 ≤ x5 then ((colloquylaw06_Few.f ((rd_T35 x0 x5).f3.f0) ((rd_T35 x0 x5).f3.f1)).bind fun t450 => (if t450 = true then ((colloquylaw09_does.f k x449000 x449001 x449002 x449003 x449004 x449005 x449006 x449007 x449008 x449009 x449010 x449011 x449012 ((rd_T35 x0 x5).f0) ((rd_T35 x0 x5).f1.f0) ((rd_T35 x0 x5).f1.f1) ((rd_T35 x0 x5).f2.f0) ((rd_T35 x0 x5).f2.f1) ((rd_T35 x0 x5).f2.f2) ((rd_T35 x0 x5).f2.f3) ((rd_T35 x0 x5).f2.f4) ((rd_T35 x0 x5).f2.f5) ((rd_T35 x0 x5).f3.f0) ((rd_T35 x0 x5).f3.f1)).bind fun bt452 => ((ballot_Cmp.f k bt452.2.1 bt452.2.2.1 x449001 x449002).bind fun t469 => (if t469 < 0 then (colloquylaw09_InstanceRises.j2 k x0 x5 true x449000 x449001 x449002 x449003 x449004 x449005 x449006 x449007 x449008 x449009 x449010 x449011 x449012 bt452.1 bt452.2.1 bt452.2.2.1 bt452.2.2.2.1 bt452.2.2.2.2.1 bt452.2.2.2.2.2.1 bt452.2.2.2.2.2.2.1 bt452.2.2.2.2.2.2.2.1 bt452.2.2.2.2.2.2.2.2.1 bt452.2.2.2.2.2.2.2.2.2.1 bt452.2.2.2.2.2.2.2.2.2.2.1 bt452.2.2.2.2.2.2.2.2.2.2.2.1 bt452.2.2.2.2.2.2.2.2.2.2.2.2.1) else ((ballot_Cmp.f k bt452.2.2.2.1 bt452.2.2.2.2.1 x449003 x449004).bind fun t470 => (if t470 < 0 then (colloquylaw09_InstanceRises.j2 k x0 x5 true x449000 x449001 x449002 x449003 x449004 x449005 x449006 x449007 x449008 x449009 x449010 x449011 x449012 bt452.1 bt452.2.1 bt452.2.2.1 bt452.2.2.2.1 bt452.2.2.2.2.1 bt452.2.2.2.2.2.1 bt452.2.2.2.2.2.2.1 bt452.2.2.2.2.2.2.2.1 bt452.2.2.2.2.2.2.2.2.1 bt452.2.2.2.2.2.2.2.2.2.1 bt452.2.2.2.2.2.2.2.2.2.2.1 bt452.2.2.2.2.2.2.2.2.2.2.2.1 bt452.2.2.2.2.2.2.2.2.2.2.2.2.1) else ((ballot_Cmp.f k bt452.2.2.2.1 bt452.2.2.2.2.1 bt452.2.1 bt452.2.2.1).bind fun t471 => (if t471 > 0 then (colloquylaw09_InstanceRises.j2 k x0 x5 true x449000 x449001 x449002 x449003 x449004 x449005 x449006 x449007 x449008 x449009 x449010 x449011 x449012 bt452.1 bt452.2.1 bt452.2.2.1 bt452.2.2.2.1 bt452.2.2.2.2.1 bt452.2.2.2.2.2.1 bt452.2.2.2.2.2.2.1 bt452.2.2.2.2.2.2.2.1 bt452.2.2.2.2.2.2.2.2.1 bt452.2.2.2.2.2.2.2.2.2.1 bt452.2.2.2.2.2.2.2.2.2.2.1 bt452.2.2.2.2.2.2.2.2.2.2.2.1 bt452.2.2.2.2.2.2.2.2.2.2.2.2.1) else (if bt452.1 < x449000 then ((ballot_Cmp.f k bt452.2.2.2.1 bt452.2.2.2.2.1 x449003 x449004).bind fun t472 => (colloquylaw09_InstanceRises.j2 k x0 x5 (decide (t472 ≤ 0)) x449000 x449001 x449002 x449003 x449004 x449005 x449006 x449007 x449008 x449009 x449010 x449011 x449012 bt452.1 bt452.2.1 bt452.2.2.1 bt452.2.2.2.1 bt452.2.2.2.2.1 bt452.2.2.2.2.2.1 bt452.2.2.2.2.2.2.1 bt452.2.2.2.2.2.2.2.1 bt452.2.2.2.2.2.2.2.2.1 bt452.2.2.2.2.2.2.2.2.2.1 bt452.2.2.2.2.2.2.2.2.2.2.1 bt452.2.2.2.2.2.2.2.2.2.2.2.1 bt452.2.2.2.2.2.2.2.2.2.2.2.2.1)) else (colloquylaw09_InstanceRises.j2 k x0 x5 false x449000 x449001 x449002 x449003 x449004 x449005 x449006 x449007 x449008 x449009 x449010 x449011 x449012 bt452.1 bt452.2.1 bt452.2.2.1 bt452.2.2.2.1 bt452.2.2.2.2.1 bt452.2.2.2.2.2.1 bt452.2.2.2.2.2.2.1 bt452.2.2.2.2.2.2.2.1 bt452.2.2.2.2.2.2.2.2.1 bt452.2.2.2.2.2.2.2.2.2.1 bt452.2.2.2.2.2.2.2.2.2.2.1 bt452.2.2.2.2.2.2.2.2.2.2.2.1 bt452.2.2.2.2.2.2.2.2.2.2.2.2.1))))))))) else (some true))) else (none)) else (some true)
def colloquylaw09_InstanceRises.j2 : Nat → List (S35) → Int → Bool → Int → Int → Int → Int → Int → Int → Int → Int → Int → Int → ByteArray → Int → List Int → Int → Int → Int → Int → Int → Int → Int → Int → Int → Int → ByteArray → Int → List Int → Option (Bool)
  | 0, _, _, _, _, _, _, _, _, _, _, _, _, _, _, _, _, _, _, _, _, _, _, _, _, _, _, _, _, _ => none
  | k + 1, x0, x5, x78, x449000, x449001, x449002, x449003, x449004, x449005, x449006, x449007, x449008, x449009, x449010, x449011, x449012, x469000, x469001, x469002, x469003, x469004, x469005, x469006, x469007, x469008, x469009, x469010, x469011, x469012 => if x78 = true then (some false) else (if x449000 = 3 then ((instance_Same.f x469000 x469001 x469002 x469003 x469004 x469005 x469006 x469007 x469008 x469009 x469010 x469011 x469012 x449000 x449001 x449002 x449003 x449004 x449005 x449006 x449007 x449008 x449009 x449010 x449011 x449012).bind fun t473 => (if t473 = true then (colloquylaw09_InstanceRises.l0 k x0 (wrap64 (x5 + 1)) x469000 x469001 x469002 x469003 x469004 x469005 x469006 x469007 x469008 x469009 x469010 x469011 x469012) else (some false))) else (colloquylaw09_InstanceRises.l0 k x0 (wrap64 (x5 + 1)) x469000 x469001 x469002 x469003 x469004 x469005 x469006 x469007 x469008 x469009 x469010 x469011 x469012))
end
def colloquylaw09_InstanceRises.f (k : Nat) (l0 : List (S35)) : Option (Bool) := (colloquylaw09_awake.f).bind fun t447 => (if t447 = true then (colloquylaw09_InstanceRises.j0 k l0 t447 (decide ((l0.length : Int) > 60))) else (colloquylaw09_InstanceRises.j0 k l0 t447 true))
def colloquylaw09_InstanceRises.T11 : Bool × List (List Nat × List Nat) := (true, [([], []), ([], []), ([], []), ([1, 2], [1, 2]), ([3], [3]), ([0, 4], [0, 4]), ([5], [5]), ([6], [6]), ([6], [6]), ([], []), ([9, 7, 5, 0, 1, 2, 3, 4, 5, 6, 7, 9], [7, 9]), ([8, 10, 0, 1, 2, 3, 4, 5, 6, 7, 8, 9, 10], [8])])
def colloquylaw09_InstanceRises.B11 : List Nat := [0, 0, 0, 6, 14, 31, 63, 127, 127, 0, 767, 2047]
theorem colloquylaw09_InstanceRises.tab11 : rtab .any (opsOf Try.f3 11) = colloquylaw09_InstanceRises.T11 := by kernel_rfl
theorem colloquylaw09_InstanceRises.bits11 : waitsOk colloquylaw09_InstanceRises.T11.2 colloquylaw09_InstanceRises.B11 = true := by kernel_rfl
set_option maxHeartbeats 8000000 in
set_option maxRecDepth 100000 in
theorem colloquylaw09_InstanceRises.calls (k : Nat) (A0 : Option Addr) (c0 : Nat) (l0 : List (S35)) (r : Bool) (w : World) (hr0 : Kd.C k35 w A0 l0.length l0) (hc0 : l0.length ≤ c0) (hrt : r = true) (h : colloquylaw09_InstanceRises.f k l0 = some r) :
    Calls Try.prog 3 #[.slice A0 l0.length c0] w fun e w' => e = .returned (.bool r) ∧ Below w.heap.size w w' := by
  have hu32 := Try.underlying32
  have hu30 := Try.underlying30
  have hu35 := Try.underlying35
  have hu25 := Try.underlying25
  have HRT := Aside0.mk hrt
  clear hrt
  have HR0 := Aside0.mk hr0
  have HC0 := Aside0.mk hc0
  clear hr0 hc0
  have HB := Aside0.mk (Below.refl w.heap.size w)
  have H : ((colloquylaw09_awake.f).bind fun t447 => (if t447 = true then (colloquylaw09_InstanceRises.j0 k l0 t447 (decide ((l0.length : Int) > 60))) else (colloquylaw09_InstanceRises.j0 k l0 t447 true))) = some r := h
  clear h
  replace H := Option.bind_eq_some_iff.mp H
  obtain ⟨t447, A20, H⟩ := H
  replace H : (if t447 = true then (colloquylaw09_InstanceRises.j0 k l0 t447 (decide ((l0.length : Int) > 60))) else (colloquylaw09_InstanceRises.j0 k l0 t447 true)) = some r := H
  have A2 := Aside0.mk A20
  clear A20
  have HC3 := Aside0.mk H
  clear H
  go_enter Try.func3, Try.ntmps3
  go_upto_region 2 with (first | ((with_reducible refine gate_callee (f := 8) rfl ?_); refine goesL_ (some 9) rfl rfl Try.func8 (by kernel_rfl) rfl #[] rfl (by (try simp only [List.map_toArray, List.map_cons, List.map_nil]); first | done | rfl | (simp only [List.length_drop, List.length_take]; rfl)) ?_; (with_reducible refine (colloquylaw09_awake.calls  t447 _ A2.out).mono ?_); rintro e w4 ⟨rfl, hb⟩; refine ⟨_, rfl, ?_⟩; have n0_ := Aside0.mk (below_step (by repeat (first | (with_reducible first | exact HB.out | apply below_alloc | apply pw_below_drewN | apply below_drew1) | exact HB.out)) hb); clear HB; have HB := n0_; clear n0_; (try clear hb); (try clear hb2); (try clear hk); (try clear hi)))
  (try simp only [Act.put, List.setIfInBounds_toArray, List.set_cons_zero, List.set_cons_succ])
  go_cut [16] (fun v16 wc => ∃ (kq : Nat) (x16_2 : Bool), v16 = .bool x16_2 ∧ Aside0 (colloquylaw09_InstanceRises.j0 kq l0 t447 x16_2 = some r) ∧ Aside0 (kq ≤ k) ∧ Aside0 (Below w.heap.size w wc))
  case first =>
    have H := HC3.out
    clear HC3
    by_cases c5 : t447 = true
    · subst c5
      have H1 : (colloquylaw09_InstanceRises.j0 k l0 true (decide ((l0.length : Int) > 60))) = some r := by rw [if_pos rfl] at H; exact H
      clear H
      have H := H1
      clear H1
      have H' := Aside0.mk H
      clear H
      go_wp2
      go_meet
      case rel => exact ⟨_, (decide ((l0.length : Int) > 60)), (by first | rfl | (simp; done) | (simp [*]; done)), H', ⟨by first | omega | exact Nat.le_refl _⟩, ⟨by repeat (first | (with_reducible first | exact HB.out | apply below_alloc | apply pw_below_drewN | apply below_drew1) | exact HB.out)⟩⟩
    · replace c5 := Bool.eq_false_iff.mpr c5
      subst c5
      have H1 : (colloquylaw09_InstanceRises.j0 k l0 false true) = some r := by rw [if_neg (show ¬ (false = true) by decide)] at H; exact H
      clear H
      have H := H1
      clear H1
      have H' := Aside0.mk H
      clear H
      go_wp2
      go_meet
      case rel => exact ⟨_, (true), (by first | rfl | (simp; done) | (simp [*]; done)), H', ⟨by first | omega | exact Nat.le_refl _⟩, ⟨by repeat (first | (with_reducible first | exact HB.out | apply below_alloc | apply pw_below_drewN | apply below_drew1) | exact HB.out)⟩⟩
  case rest =>
    clear HC3
    try clear p2
    try clear c3
    try clear c5
    obtain ⟨kq, x16_2, rfl, HA, HJ2, HB⟩ := hcut
    cases kq with
    | zero => exact absurd HA.out (by simp [colloquylaw09_InstanceRises.j0])
    | succ kj2 =>
      have H := HA.out
      clear HA
      simp only [colloquylaw09_InstanceRises.j0] at H
      by_cases c6 : x16_2 = true
      · subst c6
        have H1 : (some t447) = some r := by rw [if_pos rfl] at H; exact H
        clear H
        have H := H1
        clear H1
        obtain rfl := Option.some.inj H
        go_wp2
        go_ret
        exact ⟨by first | rfl | (simp [errW_none, errW_some] <;> rfl) | (simp [*, errW_none, errW_some] <;> rfl), by repeat (first | (with_reducible first | exact HB.out | apply below_alloc | apply pw_below_drewN | apply below_drew1) | exact HB.out)⟩
      · replace c6 := Bool.eq_false_iff.mpr c6
        subst c6
        have H1 : (colloquylaw09_InstanceRises.l0 kj2 l0 0 0 0 0 0 0 0 0 0 0 0 (⟨#[]⟩ : ByteArray) 0 ([] : List Int)) = some r := by rw [if_neg (show ¬ (false = true) by decide)] at H; exact H
        clear H
        have H := H1
        clear H1
        have H' := Aside0.mk H
        clear H
        go_wp2_with (first | ((with_reducible refine gate_dst (N := 4) rfl ?_); (try (refine gate_guard (by rfl) ?_; dsimp only)); refine box_event ?hg (N := 4) ?hd (cs := #[.int .i64 0, .int .i64 0, .int .i64 0, .int .i64 0, .int .i64 0, .int .i64 0, .int .i64 0, .int .i64 0, .int .i64 0, .int .i64 0, .string (⟨#[]⟩ : ByteArray), .int .i64 0, .slice none 0 0]) (t := 32) ?hr ?_; (case hd => rfl); (case hg => rfl); (case hr => first | (go_simp; done) | (go_simp; rfl)); intro gb448 hg w7 hbox hb; have n0_ := Aside0.mk (below_step (by repeat (first | (with_reducible first | exact HB.out | apply below_alloc | apply pw_below_drewN | apply below_drew1) | exact HB.out)) hb); have n1_ := Aside0.mk (hbox); have n2_ := Aside0.mk ((by rw [hg]; exact (below_size (by repeat (first | (with_reducible first | exact HB.out | apply below_alloc | apply pw_below_drewN | apply below_drew1) | exact HB.out))) : w.heap.size ≤ gb448)); have n3_ := Aside0.mk ((by rw [hg]; exact (below_size (by repeat (first | (with_reducible first | exact HB.out | apply below_alloc | apply pw_below_drewN | apply below_drew1) | exact HB.out))) : w.heap.size ≤ gb448)); clear HB; have HB := n0_; have BK448 := n1_; have GW448 := n2_; have GE448 := n3_; clear n0_ n1_ n2_ n3_; clear hb hbox hg; have hcz8_0 : w7.cell? ⟨gb448, 0, none⟩ = some (.int .i64 0) := (blk_cell BK448.out 0).trans rfl; have hcz8_1 : w7.cell? ⟨gb448, 1, none⟩ = some (.int .i64 0) := (blk_cell BK448.out 1).trans rfl; have hcz8_2 : w7.cell? ⟨gb448, 2, none⟩ = some (.int .i64 0) := (blk_cell BK448.out 2).trans rfl; have hcz8_3 : w7.cell? ⟨gb448, 3, none⟩ = some (.int .i64 0) := (blk_cell BK448.out 3).trans rfl; have hcz8_4 : w7.cell? ⟨gb448, 4, none⟩ = some (.int .i64 0) := (blk_cell BK448.out 4).trans rfl; have hcz8_5 : w7.cell? ⟨gb448, 5, none⟩ = some (.int .i64 0) := (blk_cell BK448.out 5).trans rfl; have hcz8_6 : w7.cell? ⟨gb448, 6, none⟩ = some (.int .i64 0) := (blk_cell BK448.out 6).trans rfl; have hcz8_7 : w7.cell? ⟨gb448, 7, none⟩ = some (.int .i64 0) := (blk_cell BK448.out 7).trans rfl; have hcz8_8 : w7.cell? ⟨gb448, 8, none⟩ = some (.int .i64 0) := (blk_cell BK448.out 8).trans rfl; have hcz8_9 : w7.cell? ⟨gb448, 9, none⟩ = some (.int .i64 0) := (blk_cell BK448.out 9).trans rfl; have hcz8_10 : w7.cell? ⟨gb448, 10, none⟩ = some (.string (⟨#[]⟩ : ByteArray)) := (blk_cell BK448.out 10).trans rfl; have hcz8_11 : w7.cell? ⟨gb448, 11, none⟩ = some (.int .i64 0) := (blk_cell BK448.out 11).trans rfl; have hcz8_12 : w7.cell? ⟨gb448, 12, none⟩ = some (.slice none 0 0) := (blk_cell BK448.out 12).trans rfl; have hfz8_0 := blk_frozen BK448.out 0; have hfz8_1 := blk_frozen BK448.out 1; have hfz8_2 := blk_frozen BK448.out 2; have hfz8_3 := blk_frozen BK448.out 3; have hfz8_4 := blk_frozen BK448.out 4; have hfz8_5 := blk_frozen BK448.out 5; have hfz8_6 := blk_frozen BK448.out 6; have hfz8_7 := blk_frozen BK448.out 7; have hfz8_8 := blk_frozen BK448.out 8; have hfz8_9 := blk_frozen BK448.out 9; have hfz8_10 := blk_frozen BK448.out 10; have hfz8_11 := blk_frozen BK448.out 11; have hfz8_12 := blk_frozen BK448.out 12))
        go_loopg [5] kj2 (fun kq v5 w' => ∃ (x5_2 : Int) (x449000_2 : Int) (x449001_2 : Int) (x449002_2 : Int) (x449003_2 : Int) (x449004_2 : Int) (x449005_2 : Int) (x449006_2 : Int) (x449007_2 : Int) (x449008_2 : Int) (x449009_2 : Int) (x449010_2 : ByteArray) (x449011_2 : Int) (x449012_2 : List Int) (u449012 : Value), v5 = .int .i64 x5_2 ∧ Aside0 (colloquylaw09_InstanceRises.l0 kq l0 x5_2 x449000_2 x449001_2 x449002_2 x449003_2 x449004_2 x449005_2 x449006_2 x449007_2 x449008_2 x449009_2 x449010_2 x449011_2 x449012_2 = some r) ∧ Aside0 (kq ≤ kj2) ∧ Aside0 (Kd.R (Kd.int .i64) 3 w' w.heap.size (fun _ => True) u449012 x449012_2) ∧ Aside0 (w'.heap[gb448]? = some (.cells #[.int .i64 x449000_2, .int .i64 x449001_2, .int .i64 x449002_2, .int .i64 x449003_2, .int .i64 x449004_2, .int .i64 x449005_2, .int .i64 x449006_2, .int .i64 x449007_2, .int .i64 x449008_2, .int .i64 x449009_2, .string x449010_2, .int .i64 x449011_2, u449012] 32 (0, 0))) ∧ Aside0 (Below w.heap.size w w'))
        case atStart => exact ⟨(0), (0), (0), (0), (0), (0), (0), (0), (0), (0), (0), ((⟨#[]⟩ : ByteArray)), (0), (([] : List Int)), (.slice none 0 0), (by first | rfl | (simp; done) | (simp [*]; done)), H', ⟨Nat.le_refl _⟩, ⟨by first | exact Kd.R_nil _ _ _ _ _ | exact Kd.N_nil _ _ _ _ _ | exact Kd.V_nil _ _ _ _ _ | exact Kd.Q_nil _ _ _ _ _ | exact Kd.S_nil _ _ _ _ _⟩, ⟨by (with_reducible repeat (first | refine blk_drewN ?_ _ | refine blk_drew ?_ | refine blk_alloc ?_ _)); refine blk_put13 (cs := #[.int .i64 0, .int .i64 0, .int .i64 0, .int .i64 0, .int .i64 0, .int .i64 0, .int .i64 0, .int .i64 0, .int .i64 0, .int .i64 0, .string (⟨#[]⟩ : ByteArray), .int .i64 0, .slice none 0 0]) ?_ rfl; (with_reducible repeat (first | refine blk_drewN ?_ _ | refine blk_drew ?_ | refine blk_alloc ?_ _)); exact BK448.out⟩, ⟨by repeat (first | (with_reducible first | exact HB.out | apply below_alloc | apply pw_below_drewN | apply below_drew1 | refine below_set ?_ GE448.out) | exact HB.out)⟩⟩
        case round =>
          clear H'
          try clear p2
          try clear c3
          try clear c5
          try clear c6
          try clear c8
          try clear hcz8_0
          try clear hcz8_1
          try clear hcz8_10
          try clear hcz8_11
          try clear hcz8_12
          try clear hcz8_2
          try clear hcz8_3
          try clear hcz8_4
          try clear hcz8_5
          try clear hcz8_6
          try clear hcz8_7
          try clear hcz8_8
          try clear hcz8_9
          try clear hfz8_0
          try clear hfz8_1
          try clear hfz8_10
          try clear hfz8_11
          try clear hfz8_12
          try clear hfz8_2
          try clear hfz8_3
          try clear hfz8_4
          try clear hfz8_5
          try clear hfz8_6
          try clear hfz8_7
          try clear hfz8_8
          try clear hfz8_9
          try clear p2
          obtain ⟨x5_2, x449000_2, x449001_2, x449002_2, x449003_2, x449004_2, x449005_2, x449006_2, x449007_2, x449008_2, x449009_2, x449010_2, x449011_2, x449012_2, u449012, rfl, HA, HK2, HO_449012, BK448, HB⟩ := hrel
          cases gk with
          | zero => exact absurd HA.out (by simp [colloquylaw09_InstanceRises.l0])
          | succ k2 =>
            have H := HA.out
            clear HA
            simp only [colloquylaw09_InstanceRises.l0] at H
            by_cases c9 : x5_2 < (l0.length : Int)
            · rw [if_pos c9] at H
              have c9b0 : decide (x5_2 < (l0.length : Int)) = true := decide_eq_true c9
              clear c9
              by_cases c10 : 0 ≤ x5_2
              · rw [if_pos c10] at H
                have c10b0 : decide (0 ≤ x5_2) = true := decide_eq_true c10
                clear c10
                replace H := Option.bind_eq_some_iff.mp H
                obtain ⟨t450, A110, H⟩ := H
                replace H : (if t450 = true then ((colloquylaw09_does.f k2 x449000_2 x449001_2 x449002_2 x449003_2 x449004_2 x449005_2 x449006_2 x449007_2 x449008_2 x449009_2 x449010_2 x449011_2 x449012_2 ((rd_T35 l0 x5_2).f0) ((rd_T35 l0 x5_2).f1.f0) ((rd_T35 l0 x5_2).f1.f1) ((rd_T35 l0 x5_2).f2.f0) ((rd_T35 l0 x5_2).f2.f1) ((rd_T35 l0 x5_2).f2.f2) ((rd_T35 l0 x5_2).f2.f3) ((rd_T35 l0 x5_2).f2.f4) ((rd_T35 l0 x5_2).f2.f5) ((rd_T35 l0 x5_2).f3.f0) ((rd_T35 l0 x5_2).f3.f1)).bind fun bt452 => ((ballot_Cmp.f k2 bt452.2.1 bt452.2.2.1 x449001_2 x449002_2).bind fun t469 => (if t469 < 0 then (colloquylaw09_InstanceRises.j2 k2 l0 x5_2 true x449000_2 x449001_2 x449002_2 x449003_2 x449004_2 x449005_2 x449006_2 x449007_2 x449008_2 x449009_2 x449010_2 x449011_2 x449012_2 bt452.1 bt452.2.1 bt452.2.2.1 bt452.2.2.2.1 bt452.2.2.2.2.1 bt452.2.2.2.2.2.1 bt452.2.2.2.2.2.2.1 bt452.2.2.2.2.2.2.2.1 bt452.2.2.2.2.2.2.2.2.1 bt452.2.2.2.2.2.2.2.2.2.1 bt452.2.2.2.2.2.2.2.2.2.2.1 bt452.2.2.2.2.2.2.2.2.2.2.2.1 bt452.2.2.2.2.2.2.2.2.2.2.2.2.1) else ((ballot_Cmp.f k2 bt452.2.2.2.1 bt452.2.2.2.2.1 x449003_2 x449004_2).bind fun t470 => (if t470 < 0 then (colloquylaw09_InstanceRises.j2 k2 l0 x5_2 true x449000_2 x449001_2 x449002_2 x449003_2 x449004_2 x449005_2 x449006_2 x449007_2 x449008_2 x449009_2 x449010_2 x449011_2 x449012_2 bt452.1 bt452.2.1 bt452.2.2.1 bt452.2.2.2.1 bt452.2.2.2.2.1 bt452.2.2.2.2.2.1 bt452.2.2.2.2.2.2.1 bt452.2.2.2.2.2.2.2.1 bt452.2.2.2.2.2.2.2.2.1 bt452.2.2.2.2.2.2.2.2.2.1 bt452.2.2.2.2.2.2.2.2.2.2.1 bt452.2.2.2.2.2.2.2.2.2.2.2.1 bt452.2.2.2.2.2.2.2.2.2.2.2.2.1) else ((ballot_Cmp.f k2 bt452.2.2.2.1 bt452.2.2.2.2.1 bt452.2.1 bt452.2.2.1).bind fun t471 => (if t471 > 0 then (colloquylaw09_InstanceRises.j2 k2 l0 x5_2 true x449000_2 x449001_2 x449002_2 x449003_2 x449004_2 x449005_2 x449006_2 x449007_2 x449008_2 x449009_2 x449010_2 x449011_2 x449012_2 bt452.1 bt452.2.1 bt452.2.2.1 bt452.2.2.2.1 bt452.2.2.2.2.1 bt452.2.2.2.2.2.1 bt452.2.2.2.2.2.2.1 bt452.2.2.2.2.2.2.2.1 bt452.2.2.2.2.2.2.2.2.1 bt452.2.2.2.2.2.2.2.2.2.1 bt452.2.2.2.2.2.2.2.2.2.2.1 bt452.2.2.2.2.2.2.2.2.2.2.2.1 bt452.2.2.2.2.2.2.2.2.2.2.2.2.1) else (if bt452.1 < x449000_2 then ((ballot_Cmp.f k2 bt452.2.2.2.1 bt452.2.2.2.2.1 x449003_2 x449004_2).bind fun t472 => (colloquylaw09_InstanceRises.j2 k2 l0 x5_2 (decide (t472 ≤ 0)) x449000_2 x449001_2 x449002_2 x449003_2 x449004_2 x449005_2 x449006_2 x449007_2 x449008_2 x449009_2 x449010_2 x449011_2 x449012_2 bt452.1 bt452.2.1 bt452.2.2.1 bt452.2.2.2.1 bt452.2.2.2.2.1 bt452.2.2.2.2.2.1 bt452.2.2.2.2.2.2.1 bt452.2.2.2.2.2.2.2.1 bt452.2.2.2.2.2.2.2.2.1 bt452.2.2.2.2.2.2.2.2.2.1 bt452.2.2.2.2.2.2.2.2.2.2.1 bt452.2.2.2.2.2.2.2.2.2.2.2.1 bt452.2.2.2.2.2.2.2.2.2.2.2.2.1)) else (colloquylaw09_InstanceRises.j2 k2 l0 x5_2 false x449000_2 x449001_2 x449002_2 x449003_2 x449004_2 x449005_2 x449006_2 x449007_2 x449008_2 x449009_2 x449010_2 x449011_2 x449012_2 bt452.1 bt452.2.1 bt452.2.2.1 bt452.2.2.2.1 bt452.2.2.2.2.1 bt452.2.2.2.2.2.1 bt452.2.2.2.2.2.2.1 bt452.2.2.2.2.2.2.2.1 bt452.2.2.2.2.2.2.2.2.1 bt452.2.2.2.2.2.2.2.2.2.1 bt452.2.2.2.2.2.2.2.2.2.2.1 bt452.2.2.2.2.2.2.2.2.2.2.2.1 bt452.2.2.2.2.2.2.2.2.2.2.2.2.1))))))))) else (some true)) = some r := H
                have A11 := Aside0.mk A110
                clear A110
                by_cases c12 : t450 = true
                · subst c12
                  have H1 : ((colloquylaw09_does.f k2 x449000_2 x449001_2 x449002_2 x449003_2 x449004_2 x449005_2 x449006_2 x449007_2 x449008_2 x449009_2 x449010_2 x449011_2 x449012_2 ((rd_T35 l0 x5_2).f0) ((rd_T35 l0 x5_2).f1.f0) ((rd_T35 l0 x5_2).f1.f1) ((rd_T35 l0 x5_2).f2.f0) ((rd_T35 l0 x5_2).f2.f1) ((rd_T35 l0 x5_2).f2.f2) ((rd_T35 l0 x5_2).f2.f3) ((rd_T35 l0 x5_2).f2.f4) ((rd_T35 l0 x5_2).f2.f5) ((rd_T35 l0 x5_2).f3.f0) ((rd_T35 l0 x5_2).f3.f1)).bind fun bt452 => ((ballot_Cmp.f k2 bt452.2.1 bt452.2.2.1 x449001_2 x449002_2).bind fun t469 => (if t469 < 0 then (colloquylaw09_InstanceRises.j2 k2 l0 x5_2 true x449000_2 x449001_2 x449002_2 x449003_2 x449004_2 x449005_2 x449006_2 x449007_2 x449008_2 x449009_2 x449010_2 x449011_2 x449012_2 bt452.1 bt452.2.1 bt452.2.2.1 bt452.2.2.2.1 bt452.2.2.2.2.1 bt452.2.2.2.2.2.1 bt452.2.2.2.2.2.2.1 bt452.2.2.2.2.2.2.2.1 bt452.2.2.2.2.2.2.2.2.1 bt452.2.2.2.2.2.2.2.2.2.1 bt452.2.2.2.2.2.2.2.2.2.2.1 bt452.2.2.2.2.2.2.2.2.2.2.2.1 bt452.2.2.2.2.2.2.2.2.2.2.2.2.1) else ((ballot_Cmp.f k2 bt452.2.2.2.1 bt452.2.2.2.2.1 x449003_2 x449004_2).bind fun t470 => (if t470 < 0 then (colloquylaw09_InstanceRises.j2 k2 l0 x5_2 true x449000_2 x449001_2 x449002_2 x449003_2 x449004_2 x449005_2 x449006_2 x449007_2 x449008_2 x449009_2 x449010_2 x449011_2 x449012_2 bt452.1 bt452.2.1 bt452.2.2.1 bt452.2.2.2.1 bt452.2.2.2.2.1 bt452.2.2.2.2.2.1 bt452.2.2.2.2.2.2.1 bt452.2.2.2.2.2.2.2.1 bt452.2.2.2.2.2.2.2.2.1 bt452.2.2.2.2.2.2.2.2.2.1 bt452.2.2.2.2.2.2.2.2.2.2.1 bt452.2.2.2.2.2.2.2.2.2.2.2.1 bt452.2.2.2.2.2.2.2.2.2.2.2.2.1) else ((ballot_Cmp.f k2 bt452.2.2.2.1 bt452.2.2.2.2.1 bt452.2.1 bt452.2.2.1).bind fun t471 => (if t471 > 0 then (colloquylaw09_InstanceRises.j2 k2 l0 x5_2 true x449000_2 x449001_2 x449002_2 x449003_2 x449004_2 x449005_2 x449006_2 x449007_2 x449008_2 x449009_2 x449010_2 x449011_2 x449012_2 bt452.1 bt452.2.1 bt452.2.2.1 bt452.2.2.2.1 bt452.2.2.2.2.1 bt452.2.2.2.2.2.1 bt452.2.2.2.2.2.2.1 bt452.2.2.2.2.2.2.2.1 bt452.2.2.2.2.2.2.2.2.1 bt452.2.2.2.2.2.2.2.2.2.1 bt452.2.2.2.2.2.2.2.2.2.2.1 bt452.2.2.2.2.2.2.2.2.2.2.2.1 bt452.2.2.2.2.2.2.2.2.2.2.2.2.1) else (if bt452.1 < x449000_2 then ((ballot_Cmp.f k2 bt452.2.2.2.1 bt452.2.2.2.2.1 x449003_2 x449004_2).bind fun t472 => (colloquylaw09_InstanceRises.j2 k2 l0 x5_2 (decide (t472 ≤ 0)) x449000_2 x449001_2 x449002_2 x449003_2 x449004_2 x449005_2 x449006_2 x449007_2 x449008_2 x449009_2 x449010_2 x449011_2 x449012_2 bt452.1 bt452.2.1 bt452.2.2.1 bt452.2.2.2.1 bt452.2.2.2.2.1 bt452.2.2.2.2.2.1 bt452.2.2.2.2.2.2.1 bt452.2.2.2.2.2.2.2.1 bt452.2.2.2.2.2.2.2.2.1 bt452.2.2.2.2.2.2.2.2.2.1 bt452.2.2.2.2.2.2.2.2.2.2.1 bt452.2.2.2.2.2.2.2.2.2.2.2.1 bt452.2.2.2.2.2.2.2.2.2.2.2.2.1)) else (colloquylaw09_InstanceRises.j2 k2 l0 x5_2 false x449000_2 x449001_2 x449002_2 x449003_2 x449004_2 x449005_2 x449006_2 x449007_2 x449008_2 x449009_2 x449010_2 x449011_2 x449012_2 bt452.1 bt452.2.1 bt452.2.2.1 bt452.2.2.2.1 bt452.2.2.2.2.1 bt452.2.2.2.2.2.1 bt452.2.2.2.2.2.2.1 bt452.2.2.2.2.2.2.2.1 bt452.2.2.2.2.2.2.2.2.1 bt452.2.2.2.2.2.2.2.2.2.1 bt452.2.2.2.2.2.2.2.2.2.2.1 bt452.2.2.2.2.2.2.2.2.2.2.2.1 bt452.2.2.2.2.2.2.2.2.2.2.2.2.1))))))))) = some r := by rw [if_pos rfl] at H; exact H
                  clear H
                  have H := H1
                  clear H1
                  replace H := Option.bind_eq_some_iff.mp H
                  obtain ⟨⟨t452, t453, t454, t455, t456, t457, t458, t459, t460, t461, t462, t463, t464, t467⟩, A130, H⟩ := H
                  replace H : ((ballot_Cmp.f k2 t453 t454 x449001_2 x449002_2).bind fun t469 => (if t469 < 0 then (colloquylaw09_InstanceRises.j2 k2 l0 x5_2 true x449000_2 x449001_2 x449002_2 x449003_2 x449004_2 x449005_2 x449006_2 x449007_2 x449008_2 x449009_2 x449010_2 x449011_2 x449012_2 t452 t453 t454 t455 t456 t457 t458 t459 t460 t461 t462 t463 t464) else ((ballot_Cmp.f k2 t455 t456 x449003_2 x449004_2).bind fun t470 => (if t470 < 0 then (colloquylaw09_InstanceRises.j2 k2 l0 x5_2 true x449000_2 x449001_2 x449002_2 x449003_2 x449004_2 x449005_2 x449006_2 x449007_2 x449008_2 x449009_2 x449010_2 x449011_2 x449012_2 t452 t453 t454 t455 t456 t457 t458 t459 t460 t461 t462 t463 t464) else ((ballot_Cmp.f k2 t455 t456 t453 t454).bind fun t471 => (if t471 > 0 then (colloquylaw09_InstanceRises.j2 k2 l0 x5_2 true x449000_2 x449001_2 x449002_2 x449003_2 x449004_2 x449005_2 x449006_2 x449007_2 x449008_2 x449009_2 x449010_2 x449011_2 x449012_2 t452 t453 t454 t455 t456 t457 t458 t459 t460 t461 t462 t463 t464) else (if t452 < x449000_2 then ((ballot_Cmp.f k2 t455 t456 x449003_2 x449004_2).bind fun t472 => (colloquylaw09_InstanceRises.j2 k2 l0 x5_2 (decide (t472 ≤ 0)) x449000_2 x449001_2 x449002_2 x449003_2 x449004_2 x449005_2 x449006_2 x449007_2 x449008_2 x449009_2 x449010_2 x449011_2 x449012_2 t452 t453 t454 t455 t456 t457 t458 t459 t460 t461 t462 t463 t464)) else (colloquylaw09_InstanceRises.j2 k2 l0 x5_2 false x449000_2 x449001_2 x449002_2 x449003_2 x449004_2 x449005_2 x449006_2 x449007_2 x449008_2 x449009_2 x449010_2 x449011_2 x449012_2 t452 t453 t454 t455 t456 t457 t458 t459 t460 t461 t462 t463 t464)))))))) = some r := H
                  have A13 := Aside0.mk A130
                  clear A130
                  have HC14 := Aside0.mk H
                  clear H
                  have p449 : 0 ≤ (x5_2 : Int) := of_decide_eq_true (by first | (with_reducible assumption) | assumption)
                  have q449 : x5_2 < (l0.length : Int) := of_decide_eq_true (by first | (with_reducible assumption) | assumption)
                  obtain ⟨ad449, A449_10, c449_10, e449, hx449_0, hx449_1, hx449_2, hx449_3, hx449_4, hx449_5, hx449_6, hx449_7, hx449_8, hx449_9, hx449_10, hl449_10, hi449_10⟩ := at_T35 HR0.out x5_2 p449 q449
                  cases e449
                  replace hx449_0 := (HB.out.cell (World.block_lt_of_cell? w _ hx449_0)).trans hx449_0
                  replace hx449_1 := (HB.out.cell (World.block_lt_of_cell? w _ hx449_1)).trans hx449_1
                  replace hx449_2 := (HB.out.cell (World.block_lt_of_cell? w _ hx449_2)).trans hx449_2
                  replace hx449_3 := (HB.out.cell (World.block_lt_of_cell? w _ hx449_3)).trans hx449_3
                  replace hx449_4 := (HB.out.cell (World.block_lt_of_cell? w _ hx449_4)).trans hx449_4
                  replace hx449_5 := (HB.out.cell (World.block_lt_of_cell? w _ hx449_5)).trans hx449_5
                  replace hx449_6 := (HB.out.cell (World.block_lt_of_cell? w _ hx449_6)).trans hx449_6
                  replace hx449_7 := (HB.out.cell (World.block_lt_of_cell? w _ hx449_7)).trans hx449_7
                  replace hx449_8 := (HB.out.cell (World.block_lt_of_cell? w _ hx449_8)).trans hx449_8
                  replace hx449_9 := (HB.out.cell (World.block_lt_of_cell? w _ hx449_9)).trans hx449_9
                  replace hx449_10 := (HB.out.cell (World.block_lt_of_cell? w _ hx449_10)).trans hx449_10
                  have HR449_10 := Aside0.mk hi449_10
                  have HC449_10 := Aside0.mk hl449_10
                  clear hi449_10 hl449_10
                  replace p449 := eq_true p449
                  replace q449 := eq_true q449
                  try go_wp2_with (first | ((with_reducible refine gate_callee (f := 9) rfl ?_); refine goesL_ (some 30) rfl rfl Try.func9 (by kernel_rfl) rfl #[.agg #[.int .i64 ((rd_T35 l0 x5_2).f3.f0), .slice A449_10 ((rd_T35 l0 x5_2).f3.f1).length c449_10]] rfl (by (try simp only [List.map_toArray, List.map_cons, List.map_nil]); first | done | rfl | (simp only [List.length_drop, List.length_take]; rfl)) ?_; (with_reducible refine (colloquylaw06_Few.calls ((rd_T35 l0 x5_2).f3.f0) _ _ ((rd_T35 l0 x5_2).f3.f1) true _ ?side1 ?side2 A11.out).mono ?_); (case side1 => repeat (first | exact (Kd.C_below HR449_10.out HB.out) | (with_reducible refine Kd.C_alloc ?_ _) | (with_reducible refine Kd.C_drewN ?_ _) | (with_reducible refine Kd.C_drew ?_))); (case side2 => exact HC449_10.out); rintro e w15 ⟨rfl, hb⟩; refine ⟨_, rfl, ?_⟩; have n0_ := Aside0.mk (Kd.R_below (by (with_reducible repeat (first | apply Kd.R_alloc | apply Kd.R_drewN | apply Kd.R_drew)); exact HO_449012.out) hb); have n1_ := Aside0.mk (blk_below (g := gb448) (by (with_reducible repeat (first | refine blk_drewN ?_ _ | refine blk_drew ?_ | refine blk_alloc ?_ _)); exact BK448.out) hb); have n2_ := Aside0.mk (below_step (by repeat (first | (with_reducible first | exact HB.out | apply below_alloc | apply pw_below_drewN | apply below_drew1 | refine below_set ?_ GE448.out) | exact HB.out)) hb); clear HO_449012; clear BK448; clear HB; have HO_449012 := n0_; have BK448 := n1_; have HB := n2_; clear n0_ n1_ n2_; (try clear hb); (try clear hb2); (try clear hk); (try clear hi); obtain ⟨Ao16, co16, eo16⟩ := Kd.R_slice HO_449012.out; subst eo16))
                  have n0_ := Aside0.mk (Kd.R_drew HO_449012.out)
                  have n1_ := Aside0.mk (blk_drew BK448.out)
                  have n2_ := Aside0.mk (below_drew1 HB.out)
                  clear HO_449012
                  clear BK448
                  clear HB
                  have HO_449012 := n0_
                  have BK448 := n1_
                  have HB := n2_
                  clear n0_ n1_ n2_
                  have p451 : 0 ≤ (x5_2 : Int) := of_decide_eq_true (by first | (with_reducible assumption) | assumption)
                  have q451 : x5_2 < (l0.length : Int) := of_decide_eq_true (by first | (with_reducible assumption) | assumption)
                  obtain ⟨ad451, A451_10, c451_10, e451, hx451_0, hx451_1, hx451_2, hx451_3, hx451_4, hx451_5, hx451_6, hx451_7, hx451_8, hx451_9, hx451_10, hl451_10, hi451_10⟩ := at_T35 HR0.out x5_2 p451 q451
                  have hw451_10 := hx451_10
                  have hw451_9 := hx451_9
                  have hw451_8 := hx451_8
                  have hw451_7 := hx451_7
                  have hw451_6 := hx451_6
                  have hw451_5 := hx451_5
                  have hw451_4 := hx451_4
                  have hw451_3 := hx451_3
                  have hw451_2 := hx451_2
                  have hw451_1 := hx451_1
                  have hw451_0 := hx451_0
                  obtain rfl : ad449 = ad451 := (by injection e451)
                  replace hx451_0 := (HB.out.cell (World.block_lt_of_cell? w _ hx451_0)).trans hx451_0
                  replace hx451_1 := (HB.out.cell (World.block_lt_of_cell? w _ hx451_1)).trans hx451_1
                  replace hx451_2 := (HB.out.cell (World.block_lt_of_cell? w _ hx451_2)).trans hx451_2
                  replace hx451_3 := (HB.out.cell (World.block_lt_of_cell? w _ hx451_3)).trans hx451_3
                  replace hx451_4 := (HB.out.cell (World.block_lt_of_cell? w _ hx451_4)).trans hx451_4
                  replace hx451_5 := (HB.out.cell (World.block_lt_of_cell? w _ hx451_5)).trans hx451_5
                  replace hx451_6 := (HB.out.cell (World.block_lt_of_cell? w _ hx451_6)).trans hx451_6
                  replace hx451_7 := (HB.out.cell (World.block_lt_of_cell? w _ hx451_7)).trans hx451_7
                  replace hx451_8 := (HB.out.cell (World.block_lt_of_cell? w _ hx451_8)).trans hx451_8
                  replace hx451_9 := (HB.out.cell (World.block_lt_of_cell? w _ hx451_9)).trans hx451_9
                  replace hx451_10 := (HB.out.cell (World.block_lt_of_cell? w _ hx451_10)).trans hx451_10
                  have HR451_10 := Aside0.mk hi451_10
                  have HC451_10 := Aside0.mk hl451_10
                  clear hi451_10 hl451_10
                  replace p451 := eq_true p451
                  replace q451 := eq_true q451
                  refine start_ (n := 12) (S := fun w' => w'.cell? ⟨gb448, 0, none⟩ = some (.int .i64 x449000_2) ∧ w'.cell? ⟨gb448, 1, none⟩ = some (.int .i64 x449001_2) ∧ w'.cell? ⟨gb448, 2, none⟩ = some (.int .i64 x449002_2) ∧ w'.cell? ⟨gb448, 3, none⟩ = some (.int .i64 x449003_2) ∧ w'.cell? ⟨gb448, 4, none⟩ = some (.int .i64 x449004_2) ∧ w'.cell? ⟨gb448, 5, none⟩ = some (.int .i64 x449005_2) ∧ w'.cell? ⟨gb448, 6, none⟩ = some (.int .i64 x449006_2) ∧ w'.cell? ⟨gb448, 7, none⟩ = some (.int .i64 x449007_2) ∧ w'.cell? ⟨gb448, 8, none⟩ = some (.int .i64 x449008_2) ∧ w'.cell? ⟨gb448, 9, none⟩ = some (.int .i64 x449009_2) ∧ w'.cell? ⟨gb448, 10, none⟩ = some (.string x449010_2) ∧ w'.cell? ⟨gb448, 11, none⟩ = some (.int .i64 x449011_2) ∧ w'.cell? ⟨gb448, 12, none⟩ = some (.slice Ao16 x449012_2.length co16) ∧ w'.cell? (ad449.add ((x5_2).toNat * 11)) = some (.int .i64 ((rd_T35 l0 x5_2).f0)) ∧ w'.cell? ⟨(ad449.add ((x5_2).toNat * 11)).block, (ad449.add ((x5_2).toNat * 11)).off + 1, none⟩ = some (.int .i64 ((rd_T35 l0 x5_2).f1.f0)) ∧ w'.cell? ⟨(ad449.add ((x5_2).toNat * 11)).block, (ad449.add ((x5_2).toNat * 11)).off + 2, none⟩ = some (.int .i64 ((rd_T35 l0 x5_2).f1.f1)) ∧ w'.cell? ⟨(ad449.add ((x5_2).toNat * 11)).block, (ad449.add ((x5_2).toNat * 11)).off + 3, none⟩ = some (.int .i64 ((rd_T35 l0 x5_2).f2.f0)) ∧ w'.cell? ⟨(ad449.add ((x5_2).toNat * 11)).block, (ad449.add ((x5_2).toNat * 11)).off + 4, none⟩ = some (.int .i64 ((rd_T35 l0 x5_2).f2.f1)) ∧ w'.cell? ⟨(ad449.add ((x5_2).toNat * 11)).block, (ad449.add ((x5_2).toNat * 11)).off + 5, none⟩ = some (.int .i64 ((rd_T35 l0 x5_2).f2.f2)) ∧ w'.cell? ⟨(ad449.add ((x5_2).toNat * 11)).block, (ad449.add ((x5_2).toNat * 11)).off + 6, none⟩ = some (.int .i64 ((rd_T35 l0 x5_2).f2.f3)) ∧ w'.cell? ⟨(ad449.add ((x5_2).toNat * 11)).block, (ad449.add ((x5_2).toNat * 11)).off + 7, none⟩ = some (.int .i64 ((rd_T35 l0 x5_2).f2.f4)) ∧ w'.cell? ⟨(ad449.add ((x5_2).toNat * 11)).block, (ad449.add ((x5_2).toNat * 11)).off + 8, none⟩ = some (.string ((rd_T35 l0 x5_2).f2.f5)) ∧ w'.cell? ⟨(ad449.add ((x5_2).toNat * 11)).block, (ad449.add ((x5_2).toNat * 11)).off + 9, none⟩ = some (.int .i64 ((rd_T35 l0 x5_2).f3.f0)) ∧ w'.cell? ⟨(ad449.add ((x5_2).toNat * 11)).block, (ad449.add ((x5_2).toNat * 11)).off + 10, none⟩ = some (.slice A451_10 ((rd_T35 l0 x5_2).f3.f1).length c451_10)) (ds := []) colloquylaw09_InstanceRises.m0 (by kernel_rfl) rfl rfl ⟨(blk_cell BK448.out 0).trans rfl, (blk_cell BK448.out 1).trans rfl, (blk_cell BK448.out 2).trans rfl, (blk_cell BK448.out 3).trans rfl, (blk_cell BK448.out 4).trans rfl, (blk_cell BK448.out 5).trans rfl, (blk_cell BK448.out 6).trans rfl, (blk_cell BK448.out 7).trans rfl, (blk_cell BK448.out 8).trans rfl, (blk_cell BK448.out 9).trans rfl, (blk_cell BK448.out 10).trans rfl, (blk_cell BK448.out 11).trans rfl, (blk_cell BK448.out 12).trans rfl, ((HB.out.cell (World.block_lt_of_cell? w _ hw451_0)).trans hw451_0), ((HB.out.cell (World.block_lt_of_cell? w _ hw451_1)).trans hw451_1), ((HB.out.cell (World.block_lt_of_cell? w _ hw451_2)).trans hw451_2), ((HB.out.cell (World.block_lt_of_cell? w _ hw451_3)).trans hw451_3), ((HB.out.cell (World.block_lt_of_cell? w _ hw451_4)).trans hw451_4), ((HB.out.cell (World.block_lt_of_cell? w _ hw451_5)).trans hw451_5), ((HB.out.cell (World.block_lt_of_cell? w _ hw451_6)).trans hw451_6), ((HB.out.cell (World.block_lt_of_cell? w _ hw451_7)).trans hw451_7), ((HB.out.cell (World.block_lt_of_cell? w _ hw451_8)).trans hw451_8), ((HB.out.cell (World.block_lt_of_cell? w _ hw451_9)).trans hw451_9), ((HB.out.cell (World.block_lt_of_cell? w _ hw451_10)).trans hw451_10)⟩ (fun hHeld => ?_); refine with_tabW colloquylaw09_InstanceRises.tab11 colloquylaw09_InstanceRises.bits11 (fun HT_ HW_ => ?_)
                  generalize w15.drew = w17 at HO_449012 BK448 HB HR451_10 hx451_0 hx451_1 hx451_10 hx451_2 hx451_3 hx451_4 hx451_5 hx451_6 hx451_7 hx451_8 hx451_9 hHeld ⊢
                  refine pure_ (i := 1) (N := some 35) (v := ?_) (a' := ?_) colloquylaw09_InstanceRises.m1 rfl rfl (any_of HT_.out (by kernel_rfl)) (fun _ _ _ h => h) (Or.inl ⟨by rfl, ?_⟩) ?_ ?_
                  rotate_left
                  · intro w'
                    go_simp
                    with_reducible rfl
                  rotate_left
                  · simp only [Act.put, List.setIfInBounds_toArray, List.set_cons_zero, List.set_cons_succ, i64_w, i32_w]
                    rfl
                  refine pure_ (i := 2) (N := some 36) (v := ?_) (a' := ?_) colloquylaw09_InstanceRises.m2 rfl rfl (any_of HT_.out (by kernel_rfl)) (fun _ _ _ h => h) (Or.inl ⟨by rfl, ?_⟩) ?_ ?_
                  rotate_left
                  · intro w'
                    go_simp
                    with_reducible rfl
                  rotate_left
                  · simp only [Act.put, List.setIfInBounds_toArray, List.set_cons_zero, List.set_cons_succ, i64_w, i32_w]
                    rfl
                  refine pure_ (i := 3) (N := some 37) (v := ?_) (a' := ?_) colloquylaw09_InstanceRises.m3 rfl rfl (any_of HT_.out (by kernel_rfl)) (fun _ _ _ h => h) (Or.inl ⟨by rfl, ?_⟩) ?_ ?_
                  rotate_left
                  · intro w'
                    go_simp
                    with_reducible rfl
                  rotate_left
                  · simp only [Act.put, List.setIfInBounds_toArray, List.set_cons_zero, List.set_cons_succ, i64_w, i32_w]
                    rfl
                  refine take_ (i := 0) (N := some 34) (v := ?_) (a' := ?_) colloquylaw09_InstanceRises.m4 rfl rfl (take_ofW HT_.out HW_.out (by kernel_rfl)) (fun _ _ _ h => h) (Or.inl ⟨by rfl, ?_⟩) hHeld ?_ ?_
                  rotate_left
                  · rintro w' ⟨s0, s1, s2, s3, s4, s5, s6, s7, s8, s9, s10, s11, s12, s13, s14, s15, s16, s17, s18, s19, s20, s21, s22, s23⟩
                    go_simp
                    with_reducible rfl
                  rotate_left
                  · simp only [Act.put, List.setIfInBounds_toArray, List.set_cons_zero, List.set_cons_succ, i64_w, i32_w]
                    rfl
                  refine take_ (i := 4) (N := some 38) (v := ?_) (a' := ?_) colloquylaw09_InstanceRises.m5 rfl rfl (take_ofW HT_.out HW_.out (by kernel_rfl)) (fun _ _ _ h => h) (Or.inl ⟨by rfl, ?_⟩) hHeld ?_ ?_
                  rotate_left
                  · rintro w' ⟨s0, s1, s2, s3, s4, s5, s6, s7, s8, s9, s10, s11, s12, s13, s14, s15, s16, s17, s18, s19, s20, s21, s22, s23⟩
                    go_simp
                    with_reducible rfl
                  rotate_left
                  · simp only [Act.put, List.setIfInBounds_toArray, List.set_cons_zero, List.set_cons_succ, i64_w, i32_w]
                    rfl
                  refine join_ (σ := Value × Nat) 2 colloquylaw09_InstanceRises.m14 (fun s_ => [(39, .tuple #[.agg #[.int .i64 t452, .int .i64 t453, .int .i64 t454, .int .i64 t455, .int .i64 t456, .int .i64 t457, .int .i64 t458, .int .i64 t459, .int .i64 t460, .int .i64 t461, .string t462, .int .i64 t463, s_.1], .bool t467]), (7, .pointer (some ⟨s_.2, 0, none⟩)), (33, .tuple #[.agg #[.int .i64 t452, .int .i64 t453, .int .i64 t454, .int .i64 t455, .int .i64 t456, .int .i64 t457, .int .i64 t458, .int .i64 t459, .int .i64 t460, .int .i64 t461, .string t462, .int .i64 t463, s_.1], .bool t467]), (40, .agg #[.int .i64 t452, .int .i64 t453, .int .i64 t454, .int .i64 t455, .int .i64 t456, .int .i64 t457, .int .i64 t458, .int .i64 t459, .int .i64 t460, .int .i64 t461, .string t462, .int .i64 t463, s_.1]), (41, .bool t467)]) (fun s_ w' => (w'.cell? ⟨gb448, 0, none⟩ = some (.int .i64 x449000_2) ∧ w'.cell? ⟨gb448, 1, none⟩ = some (.int .i64 x449001_2) ∧ w'.cell? ⟨gb448, 2, none⟩ = some (.int .i64 x449002_2) ∧ w'.cell? ⟨gb448, 3, none⟩ = some (.int .i64 x449003_2) ∧ w'.cell? ⟨gb448, 4, none⟩ = some (.int .i64 x449004_2) ∧ w'.cell? ⟨gb448, 5, none⟩ = some (.int .i64 x449005_2) ∧ w'.cell? ⟨gb448, 6, none⟩ = some (.int .i64 x449006_2) ∧ w'.cell? ⟨gb448, 7, none⟩ = some (.int .i64 x449007_2) ∧ w'.cell? ⟨gb448, 8, none⟩ = some (.int .i64 x449008_2) ∧ w'.cell? ⟨gb448, 9, none⟩ = some (.int .i64 x449009_2) ∧ w'.cell? ⟨gb448, 10, none⟩ = some (.string x449010_2) ∧ w'.cell? ⟨gb448, 11, none⟩ = some (.int .i64 x449011_2) ∧ w'.cell? ⟨gb448, 12, none⟩ = some (.slice Ao16 x449012_2.length co16) ∧ w'.cell? (ad449.add ((x5_2).toNat * 11)) = some (.int .i64 ((rd_T35 l0 x5_2).f0)) ∧ w'.cell? ⟨(ad449.add ((x5_2).toNat * 11)).block, (ad449.add ((x5_2).toNat * 11)).off + 1, none⟩ = some (.int .i64 ((rd_T35 l0 x5_2).f1.f0)) ∧ w'.cell? ⟨(ad449.add ((x5_2).toNat * 11)).block, (ad449.add ((x5_2).toNat * 11)).off + 2, none⟩ = some (.int .i64 ((rd_T35 l0 x5_2).f1.f1)) ∧ w'.cell? ⟨(ad449.add ((x5_2).toNat * 11)).block, (ad449.add ((x5_2).toNat * 11)).off + 3, none⟩ = some (.int .i64 ((rd_T35 l0 x5_2).f2.f0)) ∧ w'.cell? ⟨(ad449.add ((x5_2).toNat * 11)).block, (ad449.add ((x5_2).toNat * 11)).off + 4, none⟩ = some (.int .i64 ((rd_T35 l0 x5_2).f2.f1)) ∧ w'.cell? ⟨(ad449.add ((x5_2).toNat * 11)).block, (ad449.add ((x5_2).toNat * 11)).off + 5, none⟩ = some (.int .i64 ((rd_T35 l0 x5_2).f2.f2)) ∧ w'.cell? ⟨(ad449.add ((x5_2).toNat * 11)).block, (ad449.add ((x5_2).toNat * 11)).off + 6, none⟩ = some (.int .i64 ((rd_T35 l0 x5_2).f2.f3)) ∧ w'.cell? ⟨(ad449.add ((x5_2).toNat * 11)).block, (ad449.add ((x5_2).toNat * 11)).off + 7, none⟩ = some (.int .i64 ((rd_T35 l0 x5_2).f2.f4)) ∧ w'.cell? ⟨(ad449.add ((x5_2).toNat * 11)).block, (ad449.add ((x5_2).toNat * 11)).off + 8, none⟩ = some (.string ((rd_T35 l0 x5_2).f2.f5)) ∧ w'.cell? ⟨(ad449.add ((x5_2).toNat * 11)).block, (ad449.add ((x5_2).toNat * 11)).off + 9, none⟩ = some (.int .i64 ((rd_T35 l0 x5_2).f3.f0)) ∧ w'.cell? ⟨(ad449.add ((x5_2).toNat * 11)).block, (ad449.add ((x5_2).toNat * 11)).off + 10, none⟩ = some (.slice A451_10 ((rd_T35 l0 x5_2).f3.f1).length c451_10)) ∧ (Kd.R (Kd.int .i64) 3 w' w.heap.size (fun k_ => some k_ ≠ (.slice Ao16 x449012_2.length co16 : Value).ownBlock) s_.1 t464) ∧ (Kd.R (Kd.int .i64) 3 w' w.heap.size (fun k_ => some k_ ≠ (s_.1 : Value).ownBlock) (.slice Ao16 x449012_2.length co16) x449012_2) ∧ (w'.heap[gb448]? = some (.cells #[.int .i64 x449000_2, .int .i64 x449001_2, .int .i64 x449002_2, .int .i64 x449003_2, .int .i64 x449004_2, .int .i64 x449005_2, .int .i64 x449006_2, .int .i64 x449007_2, .int .i64 x449008_2, .int .i64 x449009_2, .string x449010_2, .int .i64 x449011_2, .slice Ao16 x449012_2.length co16] 32 (0, 0))) ∧ (w'.heap[s_.2]? = some (.cells #[.int .i64 0, .int .i64 0, .int .i64 0, .int .i64 0, .int .i64 0, .int .i64 0, .int .i64 0, .int .i64 0, .int .i64 0, .int .i64 0, .string (⟨#[]⟩ : ByteArray), .int .i64 0, .slice none 0 0] 32 (0, 0))) ∧ (w.heap.size ≤ s_.2) ∧ (w.heap.size ≤ s_.2) ∧ (gb448 ≠ s_.2) ∧ (s_.2 ≠ gb448) ∧ (Below w.heap.size w w')) ?_ ?_
                  rotate_left
                  · intro hCont
                    refine two_ (i := 5) (j := 9) (Ni := some 39) (Nj := some 7) colloquylaw09_InstanceRises.m7 colloquylaw09_InstanceRises.m6 rfl rfl rfl rfl (two_of HT_.out (by kernel_rfl)) (by decide) (by decide) (fun K hK => ?_) (fun K hK => ?_)
                    · skip
                      refine goes_ Try.func10 (by kernel_rfl) rfl #[.agg #[.int .i64 x449000_2, .int .i64 x449001_2, .int .i64 x449002_2, .int .i64 x449003_2, .int .i64 x449004_2, .int .i64 x449005_2, .int .i64 x449006_2, .int .i64 x449007_2, .int .i64 x449008_2, .int .i64 x449009_2, .string x449010_2, .int .i64 x449011_2, .slice Ao16 x449012_2.length co16], .agg #[.int .i64 ((rd_T35 l0 x5_2).f0), .int .i64 ((rd_T35 l0 x5_2).f1.f0), .int .i64 ((rd_T35 l0 x5_2).f1.f1), .int .i64 ((rd_T35 l0 x5_2).f2.f0), .int .i64 ((rd_T35 l0 x5_2).f2.f1), .int .i64 ((rd_T35 l0 x5_2).f2.f2), .int .i64 ((rd_T35 l0 x5_2).f2.f3), .int .i64 ((rd_T35 l0 x5_2).f2.f4), .string ((rd_T35 l0 x5_2).f2.f5), .int .i64 ((rd_T35 l0 x5_2).f3.f0), .slice A451_10 ((rd_T35 l0 x5_2).f3.f1).length c451_10]] (by rfl) rfl rfl (by (try simp only [List.map_toArray, List.map_cons, List.map_nil]); first | done | rfl | (simp only [List.length_drop, List.length_take]; rfl)) ?_
                      with_reducible refine (colloquylaw09_does.calls k2 x449000_2 x449001_2 x449002_2 x449003_2 x449004_2 x449005_2 x449006_2 x449007_2 x449008_2 x449009_2 x449010_2 x449011_2 _ _ x449012_2 ((rd_T35 l0 x5_2).f0) ((rd_T35 l0 x5_2).f1.f0) ((rd_T35 l0 x5_2).f1.f1) ((rd_T35 l0 x5_2).f2.f0) ((rd_T35 l0 x5_2).f2.f1) ((rd_T35 l0 x5_2).f2.f2) ((rd_T35 l0 x5_2).f2.f3) ((rd_T35 l0 x5_2).f2.f4) ((rd_T35 l0 x5_2).f2.f5) ((rd_T35 l0 x5_2).f3.f0) _ _ ((rd_T35 l0 x5_2).f3.f1) t452 t453 t454 t455 t456 t457 t458 t459 t460 t461 t462 t463 t464 t467 _ ?side1 ?side2 ?side3 ?side4 A13.out).mono ?_
                      (case side1 => repeat (first | exact (Kd.R_reads' HO_449012.out).2.2 | (with_reducible refine Kd.C_alloc ?_ _) | (with_reducible refine Kd.C_drewN ?_ _) | (with_reducible refine Kd.C_drew ?_)))
                      (case side2 => exact (Kd.R_reads' HO_449012.out).2.1)
                      (case side3 => repeat (first | exact (Kd.C_below HR451_10.out HB.out) | (with_reducible refine Kd.C_alloc ?_ _) | (with_reducible refine Kd.C_drewN ?_ _) | (with_reducible refine Kd.C_drew ?_)))
                      (case side4 => exact HC451_10.out)
                      rintro e w18 ⟨v465, rfl, ho0, hb⟩
                      refine ⟨_, rfl, ?_⟩
                      have n0_ := Aside0.mk (Kd.R_elder' (by (with_reducible repeat (first | apply Kd.R_alloc | apply Kd.R_drewN | apply Kd.R_drew)); exact HO_449012.out) (Kd.R_base ho0) hb)
                      have n1_ := Aside0.mk (Kd.R_lower (Kd.R_new' ho0 (Kd.R_lt (by (with_reducible repeat (first | apply Kd.R_alloc | apply Kd.R_drewN | apply Kd.R_drew)); exact HO_449012.out))) (below_size (by repeat (first | (with_reducible first | exact HB.out | apply below_alloc | apply pw_below_drewN | apply below_drew1 | refine below_set ?_ GE448.out) | exact HB.out))))
                      have n2_ := Aside0.mk (blk_below (g := gb448) (by (with_reducible repeat (first | refine blk_drewN ?_ _ | refine blk_drew ?_ | refine blk_alloc ?_ _)); exact BK448.out) hb)
                      have n3_ := Aside0.mk (below_step (by repeat (first | (with_reducible first | exact HB.out | apply below_alloc | apply pw_below_drewN | apply below_drew1 | refine below_set ?_ GE448.out) | exact HB.out)) hb)
                      clear HO_449012
                      clear BK448
                      clear HB
                      have HO_449012 := n0_
                      have HO466 := n1_
                      have BK448 := n2_
                      have HB := n3_
                      clear n0_ n1_ n2_ n3_
                      (try clear hb)
                      (try clear hb2)
                      (try clear hk)
                      (try clear hi)
                      (try clear ho0)
                      refine hK.out _ _ ⟨(blk_cell BK448.out 0).trans rfl, (blk_cell BK448.out 1).trans rfl, (blk_cell BK448.out 2).trans rfl, (blk_cell BK448.out 3).trans rfl, (blk_cell BK448.out 4).trans rfl, (blk_cell BK448.out 5).trans rfl, (blk_cell BK448.out 6).trans rfl, (blk_cell BK448.out 7).trans rfl, (blk_cell BK448.out 8).trans rfl, (blk_cell BK448.out 9).trans rfl, (blk_cell BK448.out 10).trans rfl, (blk_cell BK448.out 11).trans rfl, (blk_cell BK448.out 12).trans rfl, ((HB.out.cell (World.block_lt_of_cell? w _ hw451_0)).trans hw451_0), ((HB.out.cell (World.block_lt_of_cell? w _ hw451_1)).trans hw451_1), ((HB.out.cell (World.block_lt_of_cell? w _ hw451_2)).trans hw451_2), ((HB.out.cell (World.block_lt_of_cell? w _ hw451_3)).trans hw451_3), ((HB.out.cell (World.block_lt_of_cell? w _ hw451_4)).trans hw451_4), ((HB.out.cell (World.block_lt_of_cell? w _ hw451_5)).trans hw451_5), ((HB.out.cell (World.block_lt_of_cell? w _ hw451_6)).trans hw451_6), ((HB.out.cell (World.block_lt_of_cell? w _ hw451_7)).trans hw451_7), ((HB.out.cell (World.block_lt_of_cell? w _ hw451_8)).trans hw451_8), ((HB.out.cell (World.block_lt_of_cell? w _ hw451_9)).trans hw451_9), ((HB.out.cell (World.block_lt_of_cell? w _ hw451_10)).trans hw451_10)⟩ (fun hHeld => ?_)
                      clear hK K
                      refine norm_ (a' := ?_) ?_ ?_
                      rotate_left
                      · show Act.put _ (some 39) _ = _
                        simp only [Act.put, List.setIfInBounds_toArray, List.set_cons_zero, List.set_cons_succ, i64_w, i32_w]
                        rfl
                      refine pure_ (i := 6) (N := some 33) (v := ?_) (a' := ?_) colloquylaw09_InstanceRises.m9 rfl rfl (any_of HT_.out (by kernel_rfl)) (fun _ _ _ h => h) (Or.inl ⟨by rfl, ?_⟩) ?_ ?_
                      rotate_left
                      · intro w'
                        go_simp
                        with_reducible rfl
                      rotate_left
                      · simp only [Act.put, List.setIfInBounds_toArray, List.set_cons_zero, List.set_cons_succ, i64_w, i32_w]
                        rfl
                      refine pure_ (i := 7) (N := some 40) (v := ?_) (a' := ?_) colloquylaw09_InstanceRises.m11 rfl rfl (any_of HT_.out (by kernel_rfl)) (fun _ _ _ h => h) (Or.inl ⟨by rfl, ?_⟩) ?_ ?_
                      rotate_left
                      · intro w'
                        go_simp
                        with_reducible rfl
                      rotate_left
                      · simp only [Act.put, List.setIfInBounds_toArray, List.set_cons_zero, List.set_cons_succ, i64_w, i32_w]
                        rfl
                      refine pure_ (i := 8) (N := some 41) (v := ?_) (a' := ?_) colloquylaw09_InstanceRises.m13 rfl rfl (any_of HT_.out (by kernel_rfl)) (fun _ _ _ h => h) (Or.inl ⟨by rfl, ?_⟩) ?_ ?_
                      rotate_left
                      · intro w'
                        go_simp
                        with_reducible rfl
                      rotate_left
                      · simp only [Act.put, List.setIfInBounds_toArray, List.set_cons_zero, List.set_cons_succ, i64_w, i32_w]
                        rfl
                      refine one_ (i := 9) (N := some 7) colloquylaw09_InstanceRises.m14 rfl rfl (one_of HT_.out (by kernel_rfl)) (by decide) (fun K hK => ?_)
                      refine box_step ?hg (N := 7) ?hd (cs := #[.int .i64 0, .int .i64 0, .int .i64 0, .int .i64 0, .int .i64 0, .int .i64 0, .int .i64 0, .int .i64 0, .int .i64 0, .int .i64 0, .string (⟨#[]⟩ : ByteArray), .int .i64 0, .slice none 0 0]) (t := 32) ?hr ?_; (case hd => rfl); (case hg => rfl); (case hr => first | (go_simp; done) | (go_simp; rfl))
                      intro gb468 hg w19 hbox hb
                      have n0_ := Aside0.mk (Kd.R_below (by (with_reducible repeat (first | apply Kd.R_alloc | apply Kd.R_drewN | apply Kd.R_drew)); exact HO_449012.out) hb)
                      have n1_ := Aside0.mk (Kd.R_below (by (with_reducible repeat (first | apply Kd.R_alloc | apply Kd.R_drewN | apply Kd.R_drew)); exact HO466.out) hb)
                      have n2_ := Aside0.mk (blk_below (g := gb448) (by (with_reducible repeat (first | refine blk_drewN ?_ _ | refine blk_drew ?_ | refine blk_alloc ?_ _)); exact BK448.out) hb)
                      have n3_ := Aside0.mk (below_step (by repeat (first | (with_reducible first | exact HB.out | apply below_alloc | apply pw_below_drewN | apply below_drew1 | refine below_set ?_ GE448.out) | exact HB.out)) hb)
                      have n4_ := Aside0.mk (hbox)
                      have n5_ := Aside0.mk ((by rw [hg]; exact (below_size (by repeat (first | (with_reducible first | exact HB.out | apply below_alloc | apply pw_below_drewN | apply below_drew1 | refine below_set ?_ GE448.out) | exact HB.out))) : w.heap.size ≤ gb468))
                      have n6_ := Aside0.mk ((by rw [hg]; exact (below_size (by repeat (first | (with_reducible first | exact HB.out | apply below_alloc | apply pw_below_drewN | apply below_drew1 | refine below_set ?_ GE448.out) | exact HB.out))) : w.heap.size ≤ gb468))
                      have n7_ := Aside0.mk ((by rw [hg]; exact Nat.ne_of_lt (blk_lt (g := gb448) (by (with_reducible repeat (first | refine blk_drewN ?_ _ | refine blk_drew ?_ | refine blk_alloc ?_ _)); exact BK448.out)) : gb448 ≠ gb468))
                      have n8_ := Aside0.mk ((by rw [hg]; exact Nat.ne_of_gt (blk_lt (g := gb448) (by (with_reducible repeat (first | refine blk_drewN ?_ _ | refine blk_drew ?_ | refine blk_alloc ?_ _)); exact BK448.out)) : gb468 ≠ gb448))
                      clear HO_449012
                      clear HO466
                      clear BK448
                      clear HB
                      have HO_449012 := n0_
                      have HO466 := n1_
                      have BK448 := n2_
                      have HB := n3_
                      have BK468 := n4_
                      have GW468 := n5_
                      have GE468 := n6_
                      have NB448_468 := n7_
                      have NB468_448 := n8_
                      clear n0_ n1_ n2_ n3_ n4_ n5_ n6_ n7_ n8_
                      clear hb hbox hg
                      refine hK.out _ _ ⟨(blk_cell BK448.out 0).trans rfl, (blk_cell BK448.out 1).trans rfl, (blk_cell BK448.out 2).trans rfl, (blk_cell BK448.out 3).trans rfl, (blk_cell BK448.out 4).trans rfl, (blk_cell BK448.out 5).trans rfl, (blk_cell BK448.out 6).trans rfl, (blk_cell BK448.out 7).trans rfl, (blk_cell BK448.out 8).trans rfl, (blk_cell BK448.out 9).trans rfl, (blk_cell BK448.out 10).trans rfl, (blk_cell BK448.out 11).trans rfl, (blk_cell BK448.out 12).trans rfl, ((HB.out.cell (World.block_lt_of_cell? w _ hw451_0)).trans hw451_0), ((HB.out.cell (World.block_lt_of_cell? w _ hw451_1)).trans hw451_1), ((HB.out.cell (World.block_lt_of_cell? w _ hw451_2)).trans hw451_2), ((HB.out.cell (World.block_lt_of_cell? w _ hw451_3)).trans hw451_3), ((HB.out.cell (World.block_lt_of_cell? w _ hw451_4)).trans hw451_4), ((HB.out.cell (World.block_lt_of_cell? w _ hw451_5)).trans hw451_5), ((HB.out.cell (World.block_lt_of_cell? w _ hw451_6)).trans hw451_6), ((HB.out.cell (World.block_lt_of_cell? w _ hw451_7)).trans hw451_7), ((HB.out.cell (World.block_lt_of_cell? w _ hw451_8)).trans hw451_8), ((HB.out.cell (World.block_lt_of_cell? w _ hw451_9)).trans hw451_9), ((HB.out.cell (World.block_lt_of_cell? w _ hw451_10)).trans hw451_10)⟩ (fun hHeld => ?_)
                      clear hK K
                      refine norm_ (a' := ?_) ?_ ?_
                      rotate_left
                      · show Act.put _ (some 7) _ = _
                        simp only [Act.put, List.setIfInBounds_toArray, List.set_cons_zero, List.set_cons_succ, i64_w, i32_w]
                        rfl
                      exact norm_ (by simp only [putAll, Act.put, List.setIfInBounds_toArray, List.set_cons_zero, List.set_cons_succ]) (hCont (v465, gb468) _ ⟨hHeld, (by (with_reducible repeat (first | apply Kd.R_alloc | apply Kd.R_drewN | apply Kd.R_drew)); exact Kd.R_mono HO466.out (fun _ hk => hk.2)), (by (with_reducible repeat (first | apply Kd.R_alloc | apply Kd.R_drewN | apply Kd.R_drew)); exact Kd.R_mono HO_449012.out (fun _ hk => hk.2)), (by (with_reducible repeat (first | refine blk_drewN ?_ _ | refine blk_drew ?_ | refine blk_alloc ?_ _)); exact BK448.out), (by (with_reducible repeat (first | refine blk_drewN ?_ _ | refine blk_drew ?_ | refine blk_alloc ?_ _)); exact BK468.out), GW468.out, GE468.out, NB448_468.out, NB468_448.out, (by repeat (first | (with_reducible first | exact HB.out | apply below_alloc | apply pw_below_drewN | apply below_drew1 | refine below_set ?_ GE448.out | refine below_set ?_ GE468.out) | exact HB.out))⟩)
                    · skip
                      refine box_step ?hg (N := 7) ?hd (cs := #[.int .i64 0, .int .i64 0, .int .i64 0, .int .i64 0, .int .i64 0, .int .i64 0, .int .i64 0, .int .i64 0, .int .i64 0, .int .i64 0, .string (⟨#[]⟩ : ByteArray), .int .i64 0, .slice none 0 0]) (t := 32) ?hr ?_; (case hd => rfl); (case hg => rfl); (case hr => first | (go_simp; done) | (go_simp; rfl))
                      intro gb468 hg w18 hbox hb
                      have n0_ := Aside0.mk (Kd.R_below (by (with_reducible repeat (first | apply Kd.R_alloc | apply Kd.R_drewN | apply Kd.R_drew)); exact HO_449012.out) hb)
                      have n1_ := Aside0.mk (blk_below (g := gb448) (by (with_reducible repeat (first | refine blk_drewN ?_ _ | refine blk_drew ?_ | refine blk_alloc ?_ _)); exact BK448.out) hb)
                      have n2_ := Aside0.mk (below_step (by repeat (first | (with_reducible first | exact HB.out | apply below_alloc | apply pw_below_drewN | apply below_drew1 | refine below_set ?_ GE448.out) | exact HB.out)) hb)
                      have n3_ := Aside0.mk (hbox)
                      have n4_ := Aside0.mk ((by rw [hg]; exact (below_size (by repeat (first | (with_reducible first | exact HB.out | apply below_alloc | apply pw_below_drewN | apply below_drew1 | refine below_set ?_ GE448.out) | exact HB.out))) : w.heap.size ≤ gb468))
                      have n5_ := Aside0.mk ((by rw [hg]; exact (below_size (by repeat (first | (with_reducible first | exact HB.out | apply below_alloc | apply pw_below_drewN | apply below_drew1 | refine below_set ?_ GE448.out) | exact HB.out))) : w.heap.size ≤ gb468))
                      have n6_ := Aside0.mk ((by rw [hg]; exact Nat.ne_of_lt (blk_lt (g := gb448) (by (with_reducible repeat (first | refine blk_drewN ?_ _ | refine blk_drew ?_ | refine blk_alloc ?_ _)); exact BK448.out)) : gb448 ≠ gb468))
                      have n7_ := Aside0.mk ((by rw [hg]; exact Nat.ne_of_gt (blk_lt (g := gb448) (by (with_reducible repeat (first | refine blk_drewN ?_ _ | refine blk_drew ?_ | refine blk_alloc ?_ _)); exact BK448.out)) : gb468 ≠ gb448))
                      clear HO_449012
                      clear BK448
                      clear HB
                      have HO_449012 := n0_
                      have BK448 := n1_
                      have HB := n2_
                      have BK468 := n3_
                      have GW468 := n4_
                      have GE468 := n5_
                      have NB448_468 := n6_
                      have NB468_448 := n7_
                      clear n0_ n1_ n2_ n3_ n4_ n5_ n6_ n7_
                      clear hb hbox hg
                      refine hK.out _ _ ⟨(blk_cell BK448.out 0).trans rfl, (blk_cell BK448.out 1).trans rfl, (blk_cell BK448.out 2).trans rfl, (blk_cell BK448.out 3).trans rfl, (blk_cell BK448.out 4).trans rfl, (blk_cell BK448.out 5).trans rfl, (blk_cell BK448.out 6).trans rfl, (blk_cell BK448.out 7).trans rfl, (blk_cell BK448.out 8).trans rfl, (blk_cell BK448.out 9).trans rfl, (blk_cell BK448.out 10).trans rfl, (blk_cell BK448.out 11).trans rfl, (blk_cell BK448.out 12).trans rfl, ((HB.out.cell (World.block_lt_of_cell? w _ hw451_0)).trans hw451_0), ((HB.out.cell (World.block_lt_of_cell? w _ hw451_1)).trans hw451_1), ((HB.out.cell (World.block_lt_of_cell? w _ hw451_2)).trans hw451_2), ((HB.out.cell (World.block_lt_of_cell? w _ hw451_3)).trans hw451_3), ((HB.out.cell (World.block_lt_of_cell? w _ hw451_4)).trans hw451_4), ((HB.out.cell (World.block_lt_of_cell? w _ hw451_5)).trans hw451_5), ((HB.out.cell (World.block_lt_of_cell? w _ hw451_6)).trans hw451_6), ((HB.out.cell (World.block_lt_of_cell? w _ hw451_7)).trans hw451_7), ((HB.out.cell (World.block_lt_of_cell? w _ hw451_8)).trans hw451_8), ((HB.out.cell (World.block_lt_of_cell? w _ hw451_9)).trans hw451_9), ((HB.out.cell (World.block_lt_of_cell? w _ hw451_10)).trans hw451_10)⟩ (fun hHeld => ?_)
                      clear hK K
                      refine norm_ (a' := ?_) ?_ ?_
                      rotate_left
                      · show Act.put _ (some 7) _ = _
                        simp only [Act.put, List.setIfInBounds_toArray, List.set_cons_zero, List.set_cons_succ, i64_w, i32_w]
                        rfl
                      refine one_ (i := 5) (N := some 39) colloquylaw09_InstanceRises.m8 rfl rfl (one_of HT_.out (by kernel_rfl)) (by decide) (fun K hK => ?_)
                      refine goes_ Try.func10 (by kernel_rfl) rfl #[.agg #[.int .i64 x449000_2, .int .i64 x449001_2, .int .i64 x449002_2, .int .i64 x449003_2, .int .i64 x449004_2, .int .i64 x449005_2, .int .i64 x449006_2, .int .i64 x449007_2, .int .i64 x449008_2, .int .i64 x449009_2, .string x449010_2, .int .i64 x449011_2, .slice Ao16 x449012_2.length co16], .agg #[.int .i64 ((rd_T35 l0 x5_2).f0), .int .i64 ((rd_T35 l0 x5_2).f1.f0), .int .i64 ((rd_T35 l0 x5_2).f1.f1), .int .i64 ((rd_T35 l0 x5_2).f2.f0), .int .i64 ((rd_T35 l0 x5_2).f2.f1), .int .i64 ((rd_T35 l0 x5_2).f2.f2), .int .i64 ((rd_T35 l0 x5_2).f2.f3), .int .i64 ((rd_T35 l0 x5_2).f2.f4), .string ((rd_T35 l0 x5_2).f2.f5), .int .i64 ((rd_T35 l0 x5_2).f3.f0), .slice A451_10 ((rd_T35 l0 x5_2).f3.f1).length c451_10]] (by rfl) rfl rfl (by (try simp only [List.map_toArray, List.map_cons, List.map_nil]); first | done | rfl | (simp only [List.length_drop, List.length_take]; rfl)) ?_
                      with_reducible refine (colloquylaw09_does.calls k2 x449000_2 x449001_2 x449002_2 x449003_2 x449004_2 x449005_2 x449006_2 x449007_2 x449008_2 x449009_2 x449010_2 x449011_2 _ _ x449012_2 ((rd_T35 l0 x5_2).f0) ((rd_T35 l0 x5_2).f1.f0) ((rd_T35 l0 x5_2).f1.f1) ((rd_T35 l0 x5_2).f2.f0) ((rd_T35 l0 x5_2).f2.f1) ((rd_T35 l0 x5_2).f2.f2) ((rd_T35 l0 x5_2).f2.f3) ((rd_T35 l0 x5_2).f2.f4) ((rd_T35 l0 x5_2).f2.f5) ((rd_T35 l0 x5_2).f3.f0) _ _ ((rd_T35 l0 x5_2).f3.f1) t452 t453 t454 t455 t456 t457 t458 t459 t460 t461 t462 t463 t464 t467 _ ?side1 ?side2 ?side3 ?side4 A13.out).mono ?_
                      (case side1 => repeat (first | exact (Kd.R_reads' HO_449012.out).2.2 | (with_reducible refine Kd.C_alloc ?_ _) | (with_reducible refine Kd.C_drewN ?_ _) | (with_reducible refine Kd.C_drew ?_)))
                      (case side2 => exact (Kd.R_reads' HO_449012.out).2.1)
                      (case side3 => repeat (first | exact (Kd.C_below HR451_10.out HB.out) | (with_reducible refine Kd.C_alloc ?_ _) | (with_reducible refine Kd.C_drewN ?_ _) | (with_reducible refine Kd.C_drew ?_)))
                      (case side4 => exact HC451_10.out)
                      rintro e w19 ⟨v465, rfl, ho0, hb⟩
                      refine ⟨_, rfl, ?_⟩
                      have n0_ := Aside0.mk (Kd.R_elder' (by (with_reducible repeat (first | apply Kd.R_alloc | apply Kd.R_drewN | apply Kd.R_drew)); exact HO_449012.out) (Kd.R_base ho0) hb)
                      have n1_ := Aside0.mk (Kd.R_lower (Kd.R_new' ho0 (Kd.R_lt (by (with_reducible repeat (first | apply Kd.R_alloc | apply Kd.R_drewN | apply Kd.R_drew)); exact HO_449012.out))) (below_size (by repeat (first | (with_reducible first | exact HB.out | apply below_alloc | apply pw_below_drewN | apply below_drew1 | refine below_set ?_ GE448.out | refine below_set ?_ GE468.out) | exact HB.out))))
                      have n2_ := Aside0.mk (blk_below (g := gb448) (by (with_reducible repeat (first | refine blk_drewN ?_ _ | refine blk_drew ?_ | refine blk_alloc ?_ _)); exact BK448.out) hb)
                      have n3_ := Aside0.mk (blk_below (g := gb468) (by (with_reducible repeat (first | refine blk_drewN ?_ _ | refine blk_drew ?_ | refine blk_alloc ?_ _)); exact BK468.out) hb)
                      have n4_ := Aside0.mk (below_step (by repeat (first | (with_reducible first | exact HB.out | apply below_alloc | apply pw_below_drewN | apply below_drew1 | refine below_set ?_ GE448.out | refine below_set ?_ GE468.out) | exact HB.out)) hb)
                      clear HO_449012
                      clear BK448
                      clear BK468
                      clear HB
                      have HO_449012 := n0_
                      have HO466 := n1_
                      have BK448 := n2_
                      have BK468 := n3_
                      have HB := n4_
                      clear n0_ n1_ n2_ n3_ n4_
                      (try clear hb)
                      (try clear hb2)
                      (try clear hk)
                      (try clear hi)
                      (try clear ho0)
                      refine hK.out _ _ ⟨(blk_cell BK448.out 0).trans rfl, (blk_cell BK448.out 1).trans rfl, (blk_cell BK448.out 2).trans rfl, (blk_cell BK448.out 3).trans rfl, (blk_cell BK448.out 4).trans rfl, (blk_cell BK448.out 5).trans rfl, (blk_cell BK448.out 6).trans rfl, (blk_cell BK448.out 7).trans rfl, (blk_cell BK448.out 8).trans rfl, (blk_cell BK448.out 9).trans rfl, (blk_cell BK448.out 10).trans rfl, (blk_cell BK448.out 11).trans rfl, (blk_cell BK448.out 12).trans rfl, ((HB.out.cell (World.block_lt_of_cell? w _ hw451_0)).trans hw451_0), ((HB.out.cell (World.block_lt_of_cell? w _ hw451_1)).trans hw451_1), ((HB.out.cell (World.block_lt_of_cell? w _ hw451_2)).trans hw451_2), ((HB.out.cell (World.block_lt_of_cell? w _ hw451_3)).trans hw451_3), ((HB.out.cell (World.block_lt_of_cell? w _ hw451_4)).trans hw451_4), ((HB.out.cell (World.block_lt_of_cell? w _ hw451_5)).trans hw451_5), ((HB.out.cell (World.block_lt_of_cell? w _ hw451_6)).trans hw451_6), ((HB.out.cell (World.block_lt_of_cell? w _ hw451_7)).trans hw451_7), ((HB.out.cell (World.block_lt_of_cell? w _ hw451_8)).trans hw451_8), ((HB.out.cell (World.block_lt_of_cell? w _ hw451_9)).trans hw451_9), ((HB.out.cell (World.block_lt_of_cell? w _ hw451_10)).trans hw451_10)⟩ (fun hHeld => ?_)
                      clear hK K
                      refine norm_ (a' := ?_) ?_ ?_
                      rotate_left
                      · show Act.put _ (some 39) _ = _
                        simp only [Act.put, List.setIfInBounds_toArray, List.set_cons_zero, List.set_cons_succ, i64_w, i32_w]
                        rfl
                      refine pure_ (i := 6) (N := some 33) (v := ?_) (a' := ?_) colloquylaw09_InstanceRises.m10 rfl rfl (any_of HT_.out (by kernel_rfl)) (fun _ _ _ h => h) (Or.inl ⟨by rfl, ?_⟩) ?_ ?_
                      rotate_left
                      · intro w'
                        go_simp
                        with_reducible rfl
                      rotate_left
                      · simp only [Act.put, List.setIfInBounds_toArray, List.set_cons_zero, List.set_cons_succ, i64_w, i32_w]
                        rfl
                      refine pure_ (i := 7) (N := some 40) (v := ?_) (a' := ?_) colloquylaw09_InstanceRises.m12 rfl rfl (any_of HT_.out (by kernel_rfl)) (fun _ _ _ h => h) (Or.inl ⟨by rfl, ?_⟩) ?_ ?_
                      rotate_left
                      · intro w'
                        go_simp
                        with_reducible rfl
                      rotate_left
                      · simp only [Act.put, List.setIfInBounds_toArray, List.set_cons_zero, List.set_cons_succ, i64_w, i32_w]
                        rfl
                      refine pure_ (i := 8) (N := some 41) (v := ?_) (a' := ?_) colloquylaw09_InstanceRises.m14 rfl rfl (any_of HT_.out (by kernel_rfl)) (fun _ _ _ h => h) (Or.inl ⟨by rfl, ?_⟩) ?_ ?_
                      rotate_left
                      · intro w'
                        go_simp
                        with_reducible rfl
                      rotate_left
                      · simp only [Act.put, List.setIfInBounds_toArray, List.set_cons_zero, List.set_cons_succ, i64_w, i32_w]
                        rfl
                      exact norm_ (by simp only [putAll, Act.put, List.setIfInBounds_toArray, List.set_cons_zero, List.set_cons_succ]) (hCont (v465, gb468) _ ⟨hHeld, (by (with_reducible repeat (first | apply Kd.R_alloc | apply Kd.R_drewN | apply Kd.R_drew)); exact Kd.R_mono HO466.out (fun _ hk => hk.2)), (by (with_reducible repeat (first | apply Kd.R_alloc | apply Kd.R_drewN | apply Kd.R_drew)); exact Kd.R_mono HO_449012.out (fun _ hk => hk.2)), (by (with_reducible repeat (first | refine blk_drewN ?_ _ | refine blk_drew ?_ | refine blk_alloc ?_ _)); exact BK448.out), (by (with_reducible repeat (first | refine blk_drewN ?_ _ | refine blk_drew ?_ | refine blk_alloc ?_ _)); exact BK468.out), GW468.out, GE468.out, NB448_468.out, NB468_448.out, (by repeat (first | (with_reducible first | exact HB.out | apply below_alloc | apply pw_below_drewN | apply below_drew1 | refine below_set ?_ GE448.out | refine below_set ?_ GE468.out) | exact HB.out))⟩)
                  rintro ⟨v465, gb468⟩ w20 ⟨hS_, h0_, h1_, h2_, h3_, h4_, h5_, h6_, h7_, h8_⟩
                  have n0_ : Aside0 (Kd.R (Kd.int .i64) 3 w20 w.heap.size (fun k_ => some k_ ≠ (.slice Ao16 x449012_2.length co16 : Value).ownBlock) v465 t464) := ⟨h0_⟩
                  have n1_ : Aside0 (Kd.R (Kd.int .i64) 3 w20 w.heap.size (fun k_ => some k_ ≠ (v465 : Value).ownBlock) (.slice Ao16 x449012_2.length co16) x449012_2) := ⟨h1_⟩
                  have n2_ : Aside0 (w20.heap[gb448]? = some (.cells #[.int .i64 x449000_2, .int .i64 x449001_2, .int .i64 x449002_2, .int .i64 x449003_2, .int .i64 x449004_2, .int .i64 x449005_2, .int .i64 x449006_2, .int .i64 x449007_2, .int .i64 x449008_2, .int .i64 x449009_2, .string x449010_2, .int .i64 x449011_2, .slice Ao16 x449012_2.length co16] 32 (0, 0))) := ⟨h2_⟩
                  have n3_ : Aside0 (w20.heap[gb468]? = some (.cells #[.int .i64 0, .int .i64 0, .int .i64 0, .int .i64 0, .int .i64 0, .int .i64 0, .int .i64 0, .int .i64 0, .int .i64 0, .int .i64 0, .string (⟨#[]⟩ : ByteArray), .int .i64 0, .slice none 0 0] 32 (0, 0))) := ⟨h3_⟩
                  have n4_ : Aside0 (w.heap.size ≤ gb468) := ⟨h4_⟩
                  have n5_ : Aside0 (w.heap.size ≤ gb468) := ⟨h5_⟩
                  have n6_ : Aside0 (gb448 ≠ gb468) := ⟨h6_⟩
                  have n7_ : Aside0 (gb468 ≠ gb448) := ⟨h7_⟩
                  have n8_ : Aside0 (Below w.heap.size w w20) := ⟨h8_⟩
                  clear HO_449012
                  clear BK448
                  clear HB
                  clear h0_ h1_ h2_ h3_ h4_ h5_ h6_ h7_ h8_
                  have HO466 := n0_
                  have HO_449012 := n1_
                  have BK448 := n2_
                  have BK468 := n3_
                  have GW468 := n4_
                  have GE468 := n5_
                  have NB448_468 := n6_
                  have NB468_448 := n7_
                  have HB := n8_
                  clear n0_ n1_ n2_ n3_ n4_ n5_ n6_ n7_ n8_
                  have hHeld : w20.cell? ⟨gb448, 0, none⟩ = some (.int .i64 x449000_2) ∧ w20.cell? ⟨gb448, 1, none⟩ = some (.int .i64 x449001_2) ∧ w20.cell? ⟨gb448, 2, none⟩ = some (.int .i64 x449002_2) ∧ w20.cell? ⟨gb448, 3, none⟩ = some (.int .i64 x449003_2) ∧ w20.cell? ⟨gb448, 4, none⟩ = some (.int .i64 x449004_2) ∧ w20.cell? ⟨gb448, 5, none⟩ = some (.int .i64 x449005_2) ∧ w20.cell? ⟨gb448, 6, none⟩ = some (.int .i64 x449006_2) ∧ w20.cell? ⟨gb448, 7, none⟩ = some (.int .i64 x449007_2) ∧ w20.cell? ⟨gb448, 8, none⟩ = some (.int .i64 x449008_2) ∧ w20.cell? ⟨gb448, 9, none⟩ = some (.int .i64 x449009_2) ∧ w20.cell? ⟨gb448, 10, none⟩ = some (.string x449010_2) ∧ w20.cell? ⟨gb448, 11, none⟩ = some (.int .i64 x449011_2) ∧ w20.cell? ⟨gb448, 12, none⟩ = some (.slice Ao16 x449012_2.length co16) ∧ w20.cell? (ad449.add ((x5_2).toNat * 11)) = some (.int .i64 ((rd_T35 l0 x5_2).f0)) ∧ w20.cell? ⟨(ad449.add ((x5_2).toNat * 11)).block, (ad449.add ((x5_2).toNat * 11)).off + 1, none⟩ = some (.int .i64 ((rd_T35 l0 x5_2).f1.f0)) ∧ w20.cell? ⟨(ad449.add ((x5_2).toNat * 11)).block, (ad449.add ((x5_2).toNat * 11)).off + 2, none⟩ = some (.int .i64 ((rd_T35 l0 x5_2).f1.f1)) ∧ w20.cell? ⟨(ad449.add ((x5_2).toNat * 11)).block, (ad449.add ((x5_2).toNat * 11)).off + 3, none⟩ = some (.int .i64 ((rd_T35 l0 x5_2).f2.f0)) ∧ w20.cell? ⟨(ad449.add ((x5_2).toNat * 11)).block, (ad449.add ((x5_2).toNat * 11)).off + 4, none⟩ = some (.int .i64 ((rd_T35 l0 x5_2).f2.f1)) ∧ w20.cell? ⟨(ad449.add ((x5_2).toNat * 11)).block, (ad449.add ((x5_2).toNat * 11)).off + 5, none⟩ = some (.int .i64 ((rd_T35 l0 x5_2).f2.f2)) ∧ w20.cell? ⟨(ad449.add ((x5_2).toNat * 11)).block, (ad449.add ((x5_2).toNat * 11)).off + 6, none⟩ = some (.int .i64 ((rd_T35 l0 x5_2).f2.f3)) ∧ w20.cell? ⟨(ad449.add ((x5_2).toNat * 11)).block, (ad449.add ((x5_2).toNat * 11)).off + 7, none⟩ = some (.int .i64 ((rd_T35 l0 x5_2).f2.f4)) ∧ w20.cell? ⟨(ad449.add ((x5_2).toNat * 11)).block, (ad449.add ((x5_2).toNat * 11)).off + 8, none⟩ = some (.string ((rd_T35 l0 x5_2).f2.f5)) ∧ w20.cell? ⟨(ad449.add ((x5_2).toNat * 11)).block, (ad449.add ((x5_2).toNat * 11)).off + 9, none⟩ = some (.int .i64 ((rd_T35 l0 x5_2).f3.f0)) ∧ w20.cell? ⟨(ad449.add ((x5_2).toNat * 11)).block, (ad449.add ((x5_2).toNat * 11)).off + 10, none⟩ = some (.slice A451_10 ((rd_T35 l0 x5_2).f3.f1).length c451_10) := hS_
                  obtain ⟨Ao33, co33, eo33⟩ := Kd.R_slice HO466.out
                  (first | subst eo33 | (injection eo33 with f1_ f2_ f3_; have f4_ := f1_.symm; have f5_ := f3_.symm; clear f1_ f2_ f3_; subst f4_; subst f5_))
                  refine norm_ (a' := ?_) ?_ ?_
                  rotate_left
                  · simp only [putAll, Act.put, List.setIfInBounds_toArray, List.set_cons_zero, List.set_cons_succ]
                    rfl
                  refine one_ (i := 10) (N := none) colloquylaw09_InstanceRises.m15 rfl rfl (one_of HT_.out (by kernel_rfl)) (by decide) (fun K hK => ?_)
                  have hs21 : w20.cell? ⟨gb468, 0, none⟩ = some (.int .i64 0) := (blk_cell BK468.out 0).trans rfl
                  have hfs21 := blk_frozen BK468.out 0
                  have hns21_0 := NB448_468.out
                  have hms21_0 := NB468_448.out
                  have hs22 : w20.cell? ⟨gb468, 1, none⟩ = some (.int .i64 0) := (blk_cell BK468.out 1).trans rfl
                  have hfs22 := blk_frozen BK468.out 1
                  have hns22_0 := NB448_468.out
                  have hms22_0 := NB468_448.out
                  have hs23 : w20.cell? ⟨gb468, 2, none⟩ = some (.int .i64 0) := (blk_cell BK468.out 2).trans rfl
                  have hfs23 := blk_frozen BK468.out 2
                  have hns23_0 := NB448_468.out
                  have hms23_0 := NB468_448.out
                  have hs24 : w20.cell? ⟨gb468, 3, none⟩ = some (.int .i64 0) := (blk_cell BK468.out 3).trans rfl
                  have hfs24 := blk_frozen BK468.out 3
                  have hns24_0 := NB448_468.out
                  have hms24_0 := NB468_448.out
                  have hs25 : w20.cell? ⟨gb468, 4, none⟩ = some (.int .i64 0) := (blk_cell BK468.out 4).trans rfl
                  have hfs25 := blk_frozen BK468.out 4
                  have hns25_0 := NB448_468.out
                  have hms25_0 := NB468_448.out
                  have hs26 : w20.cell? ⟨gb468, 5, none⟩ = some (.int .i64 0) := (blk_cell BK468.out 5).trans rfl
                  have hfs26 := blk_frozen BK468.out 5
                  have hns26_0 := NB448_468.out
                  have hms26_0 := NB468_448.out
                  have hs27 : w20.cell? ⟨gb468, 6, none⟩ = some (.int .i64 0) := (blk_cell BK468.out 6).trans rfl
                  have hfs27 := blk_frozen BK468.out 6
                  have hns27_0 := NB448_468.out
                  have hms27_0 := NB468_448.out
                  have hs28 : w20.cell? ⟨gb468, 7, none⟩ = some (.int .i64 0) := (blk_cell BK468.out 7).trans rfl
                  have hfs28 := blk_frozen BK468.out 7
                  have hns28_0 := NB448_468.out
                  have hms28_0 := NB468_448.out
                  have hs29 : w20.cell? ⟨gb468, 8, none⟩ = some (.int .i64 0) := (blk_cell BK468.out 8).trans rfl
                  have hfs29 := blk_frozen BK468.out 8
                  have hns29_0 := NB448_468.out
                  have hms29_0 := NB468_448.out
                  have hs30 : w20.cell? ⟨gb468, 9, none⟩ = some (.int .i64 0) := (blk_cell BK468.out 9).trans rfl
                  have hfs30 := blk_frozen BK468.out 9
                  have hns30_0 := NB448_468.out
                  have hms30_0 := NB468_448.out
                  have hs31 : w20.cell? ⟨gb468, 10, none⟩ = some (.string (⟨#[]⟩ : ByteArray)) := (blk_cell BK468.out 10).trans rfl
                  have hfs31 := blk_frozen BK468.out 10
                  have hns31_0 := NB448_468.out
                  have hms31_0 := NB468_448.out
                  have hs32 : w20.cell? ⟨gb468, 11, none⟩ = some (.int .i64 0) := (blk_cell BK468.out 11).trans rfl
                  have hfs32 := blk_frozen BK468.out 11
                  have hns32_0 := NB448_468.out
                  have hms32_0 := NB468_448.out
                  have hs34 : w20.cell? ⟨gb468, 12, none⟩ = some (.slice none 0 0) := (blk_cell BK468.out 12).trans rfl
                  have hfs34 := blk_frozen BK468.out 12
                  have hns34_0 := NB448_468.out
                  have hms34_0 := NB468_448.out
                  refine skip_ (w1 := ?_) ?shw ?shN ?_ ?_
                  case shw => exact rfl
                  case shN => exact rfl
                  rotate_left
                  · go_simp
                    rfl
                  refine hK.out _ _ ⟨(by (iterate 13 (refine (cell_far (p := ⟨gb468, _, none⟩) NB448_468.out _).trans ?_)); exact hHeld.1), (by (iterate 13 (refine (cell_far (p := ⟨gb468, _, none⟩) NB448_468.out _).trans ?_)); exact hHeld.2.1), (by (iterate 13 (refine (cell_far (p := ⟨gb468, _, none⟩) NB448_468.out _).trans ?_)); exact hHeld.2.2.1), (by (iterate 13 (refine (cell_far (p := ⟨gb468, _, none⟩) NB448_468.out _).trans ?_)); exact hHeld.2.2.2.1), (by (iterate 13 (refine (cell_far (p := ⟨gb468, _, none⟩) NB448_468.out _).trans ?_)); exact hHeld.2.2.2.2.1), (by (iterate 13 (refine (cell_far (p := ⟨gb468, _, none⟩) NB448_468.out _).trans ?_)); exact hHeld.2.2.2.2.2.1), (by (iterate 13 (refine (cell_far (p := ⟨gb468, _, none⟩) NB448_468.out _).trans ?_)); exact hHeld.2.2.2.2.2.2.1), (by (iterate 13 (refine (cell_far (p := ⟨gb468, _, none⟩) NB448_468.out _).trans ?_)); exact hHeld.2.2.2.2.2.2.2.1), (by (iterate 13 (refine (cell_far (p := ⟨gb468, _, none⟩) NB448_468.out _).trans ?_)); exact hHeld.2.2.2.2.2.2.2.2.1), (by (iterate 13 (refine (cell_far (p := ⟨gb468, _, none⟩) NB448_468.out _).trans ?_)); exact hHeld.2.2.2.2.2.2.2.2.2.1), (by (iterate 13 (refine (cell_far (p := ⟨gb468, _, none⟩) NB448_468.out _).trans ?_)); exact hHeld.2.2.2.2.2.2.2.2.2.2.1), (by (iterate 13 (refine (cell_far (p := ⟨gb468, _, none⟩) NB448_468.out _).trans ?_)); exact hHeld.2.2.2.2.2.2.2.2.2.2.2.1), (by (iterate 13 (refine (cell_far (p := ⟨gb468, _, none⟩) NB448_468.out _).trans ?_)); exact hHeld.2.2.2.2.2.2.2.2.2.2.2.2.1), (by (iterate 13 (refine (cell_far (p := ⟨gb468, _, none⟩) (by first | exact Nat.ne_of_lt (Nat.lt_of_lt_of_le (by have := World.block_lt_of_cell? _ _ hw451_0; first | rwa [add_block] at this | exact this) GW468.out) | (rw [add_block]; exact Nat.ne_of_lt (Nat.lt_of_lt_of_le (by have := World.block_lt_of_cell? _ _ hw451_0; first | rwa [add_block] at this | exact this) GW468.out)) | (show (Addr.add _ _).block ≠ _; rw [add_block]; exact Nat.ne_of_lt (Nat.lt_of_lt_of_le (by have := World.block_lt_of_cell? _ _ hw451_0; first | rwa [add_block] at this | exact this) GW468.out)) | (dsimp only; exact Nat.ne_of_lt (Nat.lt_of_lt_of_le (by have := World.block_lt_of_cell? _ _ hw451_0; first | rwa [add_block] at this | exact this) GW468.out))) _).trans ?_)); exact hHeld.2.2.2.2.2.2.2.2.2.2.2.2.2.1), (by (iterate 13 (refine (cell_far (p := ⟨gb468, _, none⟩) (by first | exact Nat.ne_of_lt (Nat.lt_of_lt_of_le (by have := World.block_lt_of_cell? _ _ hw451_1; first | rwa [add_block] at this | exact this) GW468.out) | (rw [add_block]; exact Nat.ne_of_lt (Nat.lt_of_lt_of_le (by have := World.block_lt_of_cell? _ _ hw451_1; first | rwa [add_block] at this | exact this) GW468.out)) | (show (Addr.add _ _).block ≠ _; rw [add_block]; exact Nat.ne_of_lt (Nat.lt_of_lt_of_le (by have := World.block_lt_of_cell? _ _ hw451_1; first | rwa [add_block] at this | exact this) GW468.out)) | (dsimp only; exact Nat.ne_of_lt (Nat.lt_of_lt_of_le (by have := World.block_lt_of_cell? _ _ hw451_1; first | rwa [add_block] at this | exact this) GW468.out))) _).trans ?_)); exact hHeld.2.2.2.2.2.2.2.2.2.2.2.2.2.2.1), (by (iterate 13 (refine (cell_far (p := ⟨gb468, _, none⟩) (by first | exact Nat.ne_of_lt (Nat.lt_of_lt_of_le (by have := World.block_lt_of_cell? _ _ hw451_2; first | rwa [add_block] at this | exact this) GW468.out) | (rw [add_block]; exact Nat.ne_of_lt (Nat.lt_of_lt_of_le (by have := World.block_lt_of_cell? _ _ hw451_2; first | rwa [add_block] at this | exact this) GW468.out)) | (show (Addr.add _ _).block ≠ _; rw [add_block]; exact Nat.ne_of_lt (Nat.lt_of_lt_of_le (by have := World.block_lt_of_cell? _ _ hw451_2; first | rwa [add_block] at this | exact this) GW468.out)) | (dsimp only; exact Nat.ne_of_lt (Nat.lt_of_lt_of_le (by have := World.block_lt_of_cell? _ _ hw451_2; first | rwa [add_block] at this | exact this) GW468.out))) _).trans ?_)); exact hHeld.2.2.2.2.2.2.2.2.2.2.2.2.2.2.2.1), (by (iterate 13 (refine (cell_far (p := ⟨gb468, _, none⟩) (by first | exact Nat.ne_of_lt (Nat.lt_of_lt_of_le (by have := World.block_lt_of_cell? _ _ hw451_3; first | rwa [add_block] at this | exact this) GW468.out) | (rw [add_block]; exact Nat.ne_of_lt (Nat.lt_of_lt_of_le (by have := World.block_lt_of_cell? _ _ hw451_3; first | rwa [add_block] at this | exact this) GW468.out)) | (show (Addr.add _ _).block ≠ _; rw [add_block]; exact Nat.ne_of_lt (Nat.lt_of_lt_of_le (by have := World.block_lt_of_cell? _ _ hw451_3; first | rwa [add_block] at this | exact this) GW468.out)) | (dsimp only; exact Nat.ne_of_lt (Nat.lt_of_lt_of_le (by have := World.block_lt_of_cell? _ _ hw451_3; first | rwa [add_block] at this | exact this) GW468.out))) _).trans ?_)); exact hHeld.2.2.2.2.2.2.2.2.2.2.2.2.2.2.2.2.1), (by (iterate 13 (refine (cell_far (p := ⟨gb468, _, none⟩) (by first | exact Nat.ne_of_lt (Nat.lt_of_lt_of_le (by have := World.block_lt_of_cell? _ _ hw451_4; first | rwa [add_block] at this | exact this) GW468.out) | (rw [add_block]; exact Nat.ne_of_lt (Nat.lt_of_lt_of_le (by have := World.block_lt_of_cell? _ _ hw451_4; first | rwa [add_block] at this | exact this) GW468.out)) | (show (Addr.add _ _).block ≠ _; rw [add_block]; exact Nat.ne_of_lt (Nat.lt_of_lt_of_le (by have := World.block_lt_of_cell? _ _ hw451_4; first | rwa [add_block] at this | exact this) GW468.out)) | (dsimp only; exact Nat.ne_of_lt (Nat.lt_of_lt_of_le (by have := World.block_lt_of_cell? _ _ hw451_4; first | rwa [add_block] at this | exact this) GW468.out))) _).trans ?_)); exact hHeld.2.2.2.2.2.2.2.2.2.2.2.2.2.2.2.2.2.1), (by (iterate 13 (refine (cell_far (p := ⟨gb468, _, none⟩) (by first | exact Nat.ne_of_lt (Nat.lt_of_lt_of_le (by have := World.block_lt_of_cell? _ _ hw451_5; first | rwa [add_block] at this | exact this) GW468.out) | (rw [add_block]; exact Nat.ne_of_lt (Nat.lt_of_lt_of_le (by have := World.block_lt_of_cell? _ _ hw451_5; first | rwa [add_block] at this | exact this) GW468.out)) | (show (Addr.add _ _).block ≠ _; rw [add_block]; exact Nat.ne_of_lt (Nat.lt_of_lt_of_le (by have := World.block_lt_of_cell? _ _ hw451_5; first | rwa [add_block] at this | exact this) GW468.out)) | (dsimp only; exact Nat.ne_of_lt (Nat.lt_of_lt_of_le (by have := World.block_lt_of_cell? _ _ hw451_5; first | rwa [add_block] at this | exact this) GW468.out))) _).trans ?_)); exact hHeld.2.2.2.2.2.2.2.2.2.2.2.2.2.2.2.2.2.2.1), (by (iterate 13 (refine (cell_far (p := ⟨gb468, _, none⟩) (by first | exact Nat.ne_of_lt (Nat.lt_of_lt_of_le (by have := World.block_lt_of_cell? _ _ hw451_6; first | rwa [add_block] at this | exact this) GW468.out) | (rw [add_block]; exact Nat.ne_of_lt (Nat.lt_of_lt_of_le (by have := World.block_lt_of_cell? _ _ hw451_6; first | rwa [add_block] at this | exact this) GW468.out)) | (show (Addr.add _ _).block ≠ _; rw [add_block]; exact Nat.ne_of_lt (Nat.lt_of_lt_of_le (by have := World.block_lt_of_cell? _ _ hw451_6; first | rwa [add_block] at this | exact this) GW468.out)) | (dsimp only; exact Nat.ne_of_lt (Nat.lt_of_lt_of_le (by have := World.block_lt_of_cell? _ _ hw451_6; first | rwa [add_block] at this | exact this) GW468.out))) _).trans ?_)); exact hHeld.2.2.2.2.2.2.2.2.2.2.2.2.2.2.2.2.2.2.2.1), (by (iterate 13 (refine (cell_far (p := ⟨gb468, _, none⟩) (by first | exact Nat.ne_of_lt (Nat.lt_of_lt_of_le (by have := World.block_lt_of_cell? _ _ hw451_7; first | rwa [add_block] at this | exact this) GW468.out) | (rw [add_block]; exact Nat.ne_of_lt (Nat.lt_of_lt_of_le (by have := World.block_lt_of_cell? _ _ hw451_7; first | rwa [add_block] at this | exact this) GW468.out)) | (show (Addr.add _ _).block ≠ _; rw [add_block]; exact Nat.ne_of_lt (Nat.lt_of_lt_of_le (by have := World.block_lt_of_cell? _ _ hw451_7; first | rwa [add_block] at this | exact this) GW468.out)) | (dsimp only; exact Nat.ne_of_lt (Nat.lt_of_lt_of_le (by have := World.block_lt_of_cell? _ _ hw451_7; first | rwa [add_block] at this | exact this) GW468.out))) _).trans ?_)); exact hHeld.2.2.2.2.2.2.2.2.2.2.2.2.2.2.2.2.2.2.2.2.1), (by (iterate 13 (refine (cell_far (p := ⟨gb468, _, none⟩) (by first | exact Nat.ne_of_lt (Nat.lt_of_lt_of_le (by have := World.block_lt_of_cell? _ _ hw451_8; first | rwa [add_block] at this | exact this) GW468.out) | (rw [add_block]; exact Nat.ne_of_lt (Nat.lt_of_lt_of_le (by have := World.block_lt_of_cell? _ _ hw451_8; first | rwa [add_block] at this | exact this) GW468.out)) | (show (Addr.add _ _).block ≠ _; rw [add_block]; exact Nat.ne_of_lt (Nat.lt_of_lt_of_le (by have := World.block_lt_of_cell? _ _ hw451_8; first | rwa [add_block] at this | exact this) GW468.out)) | (dsimp only; exact Nat.ne_of_lt (Nat.lt_of_lt_of_le (by have := World.block_lt_of_cell? _ _ hw451_8; first | rwa [add_block] at this | exact this) GW468.out))) _).trans ?_)); exact hHeld.2.2.2.2.2.2.2.2.2.2.2.2.2.2.2.2.2.2.2.2.2.1), (by (iterate 13 (refine (cell_far (p := ⟨gb468, _, none⟩) (by first | exact Nat.ne_of_lt (Nat.lt_of_lt_of_le (by have := World.block_lt_of_cell? _ _ hw451_9; first | rwa [add_block] at this | exact this) GW468.out) | (rw [add_block]; exact Nat.ne_of_lt (Nat.lt_of_lt_of_le (by have := World.block_lt_of_cell? _ _ hw451_9; first | rwa [add_block] at this | exact this) GW468.out)) | (show (Addr.add _ _).block ≠ _; rw [add_block]; exact Nat.ne_of_lt (Nat.lt_of_lt_of_le (by have := World.block_lt_of_cell? _ _ hw451_9; first | rwa [add_block] at this | exact this) GW468.out)) | (dsimp only; exact Nat.ne_of_lt (Nat.lt_of_lt_of_le (by have := World.block_lt_of_cell? _ _ hw451_9; first | rwa [add_block] at this | exact this) GW468.out))) _).trans ?_)); exact hHeld.2.2.2.2.2.2.2.2.2.2.2.2.2.2.2.2.2.2.2.2.2.2.1), (by (iterate 13 (refine (cell_far (p := ⟨gb468, _, none⟩) (by first | exact Nat.ne_of_lt (Nat.lt_of_lt_of_le (by have := World.block_lt_of_cell? _ _ hw451_10; first | rwa [add_block] at this | exact this) GW468.out) | (rw [add_block]; exact Nat.ne_of_lt (Nat.lt_of_lt_of_le (by have := World.block_lt_of_cell? _ _ hw451_10; first | rwa [add_block] at this | exact this) GW468.out)) | (show (Addr.add _ _).block ≠ _; rw [add_block]; exact Nat.ne_of_lt (Nat.lt_of_lt_of_le (by have := World.block_lt_of_cell? _ _ hw451_10; first | rwa [add_block] at this | exact this) GW468.out)) | (dsimp only; exact Nat.ne_of_lt (Nat.lt_of_lt_of_le (by have := World.block_lt_of_cell? _ _ hw451_10; first | rwa [add_block] at this | exact this) GW468.out))) _).trans ?_)); exact hHeld.2.2.2.2.2.2.2.2.2.2.2.2.2.2.2.2.2.2.2.2.2.2.2)⟩ (fun hHeld => ?_)
                  clear hK K
                  refine pure_ (i := 11) (N := some 8) (v := ?_) (a' := ?_) colloquylaw09_InstanceRises.m16 rfl rfl (any_of HT_.out (by kernel_rfl)) (fun _ _ _ h => h) (Or.inl ⟨by rfl, ?_⟩) ?_ ?_
                  rotate_left
                  · intro w'
                    go_simp
                    with_reducible rfl
                  rotate_left
                  · simp only [Act.put, List.setIfInBounds_toArray, List.set_cons_zero, List.set_cons_succ, i64_w, i32_w]
                    rfl
                  refine done_ (done_of HT_.out (by kernel_rfl)) ?_
                  go_upto_region 12 with (fail)
                  go_cut [78] (fun v78 wc => ∃ (kq : Nat) (x78_13 : Bool), v78 = .bool x78_13 ∧ Aside0 (colloquylaw09_InstanceRises.j2 kq l0 x5_2 x78_13 x449000_2 x449001_2 x449002_2 x449003_2 x449004_2 x449005_2 x449006_2 x449007_2 x449008_2 x449009_2 x449010_2 x449011_2 x449012_2 t452 t453 t454 t455 t456 t457 t458 t459 t460 t461 t462 t463 t464 = some r) ∧ Aside0 (kq ≤ k2) ∧ Aside0 (Kd.R (Kd.int .i64) 3 wc w.heap.size (fun k_ => some k_ ≠ ((.slice Ao33 t464.length co33) : Value).ownBlock) (.slice Ao16 x449012_2.length co16) x449012_2) ∧ Aside0 (Kd.R (Kd.int .i64) 3 wc w.heap.size (fun k_ => some k_ ≠ ((.slice Ao16 x449012_2.length co16) : Value).ownBlock) (.slice Ao33 t464.length co33) t464) ∧ Aside0 (wc.heap[gb448]? = some (.cells #[.int .i64 x449000_2, .int .i64 x449001_2, .int .i64 x449002_2, .int .i64 x449003_2, .int .i64 x449004_2, .int .i64 x449005_2, .int .i64 x449006_2, .int .i64 x449007_2, .int .i64 x449008_2, .int .i64 x449009_2, .string x449010_2, .int .i64 x449011_2, (.slice Ao16 x449012_2.length co16)] 32 (0, 0))) ∧ Aside0 (wc.heap[gb468]? = some (.cells #[.int .i64 t452, .int .i64 t453, .int .i64 t454, .int .i64 t455, .int .i64 t456, .int .i64 t457, .int .i64 t458, .int .i64 t459, .int .i64 t460, .int .i64 t461, .string t462, .int .i64 t463, (.slice Ao33 t464.length co33)] 32 (0, 0))) ∧ Aside0 (Below w.heap.size w wc))
                  case first =>
                    have H := HC14.out
                    clear HC14
                    replace H := Option.bind_eq_some_iff.mp H
                    obtain ⟨t469, A350, H⟩ := H
                    replace H : (if t469 < 0 then (colloquylaw09_InstanceRises.j2 k2 l0 x5_2 true x449000_2 x449001_2 x449002_2 x449003_2 x449004_2 x449005_2 x449006_2 x449007_2 x449008_2 x449009_2 x449010_2 x449011_2 x449012_2 t452 t453 t454 t455 t456 t457 t458 t459 t460 t461 t462 t463 t464) else ((ballot_Cmp.f k2 t455 t456 x449003_2 x449004_2).bind fun t470 => (if t470 < 0 then (colloquylaw09_InstanceRises.j2 k2 l0 x5_2 true x449000_2 x449001_2 x449002_2 x449003_2 x449004_2 x449005_2 x449006_2 x449007_2 x449008_2 x449009_2 x449010_2 x449011_2 x449012_2 t452 t453 t454 t455 t456 t457 t458 t459 t460 t461 t462 t463 t464) else ((ballot_Cmp.f k2 t455 t456 t453 t454).bind fun t471 => (if t471 > 0 then (colloquylaw09_InstanceRises.j2 k2 l0 x5_2 true x449000_2 x449001_2 x449002_2 x449003_2 x449004_2 x449005_2 x449006_2 x449007_2 x449008_2 x449009_2 x449010_2 x449011_2 x449012_2 t452 t453 t454 t455 t456 t457 t458 t459 t460 t461 t462 t463 t464) else (if t452 < x449000_2 then ((ballot_Cmp.f k2 t455 t456 x449003_2 x449004_2).bind fun t472 => (colloquylaw09_InstanceRises.j2 k2 l0 x5_2 (decide (t472 ≤ 0)) x449000_2 x449001_2 x449002_2 x449003_2 x449004_2 x449005_2 x449006_2 x449007_2 x449008_2 x449009_2 x449010_2 x449011_2 x449012_2 t452 t453 t454 t455 t456 t457 t458 t459 t460 t461 t462 t463 t464)) else (colloquylaw09_InstanceRises.j2 k2 l0 x5_2 false x449000_2 x449001_2 x449002_2 x449003_2 x449004_2 x449005_2 x449006_2 x449007_2 x449008_2 x449009_2 x449010_2 x449011_2 x449012_2 t452 t453 t454 t455 t456 t457 t458 t459 t460 t461 t462 t463 t464))))))) = some r := H
                    have A35 := Aside0.mk A350
                    clear A350
                    by_cases c36 : t469 < 0
                    · rw [if_pos c36] at H
                      have c36b0 : decide (t469 < 0) = true := decide_eq_true c36
                      clear c36
                      (first | rw [c36b0] | (simp only [i64_w, i32_w]; rw [c36b0]) | skip)
                      have H' := Aside0.mk H
                      clear H
                      have hnb37 := NB468_448.out
                      have hnc37 := NB448_468.out
                      have hcz38_0 : w20.cell? ⟨gb468, 0, none⟩ = some (.int .i64 0) := (blk_cell BK468.out 0).trans rfl
                      have hcz38_1 : w20.cell? ⟨gb468, 1, none⟩ = some (.int .i64 0) := (blk_cell BK468.out 1).trans rfl
                      have hcz38_2 : w20.cell? ⟨gb468, 2, none⟩ = some (.int .i64 0) := (blk_cell BK468.out 2).trans rfl
                      have hcz38_3 : w20.cell? ⟨gb468, 3, none⟩ = some (.int .i64 0) := (blk_cell BK468.out 3).trans rfl
                      have hcz38_4 : w20.cell? ⟨gb468, 4, none⟩ = some (.int .i64 0) := (blk_cell BK468.out 4).trans rfl
                      have hcz38_5 : w20.cell? ⟨gb468, 5, none⟩ = some (.int .i64 0) := (blk_cell BK468.out 5).trans rfl
                      have hcz38_6 : w20.cell? ⟨gb468, 6, none⟩ = some (.int .i64 0) := (blk_cell BK468.out 6).trans rfl
                      have hcz38_7 : w20.cell? ⟨gb468, 7, none⟩ = some (.int .i64 0) := (blk_cell BK468.out 7).trans rfl
                      have hcz38_8 : w20.cell? ⟨gb468, 8, none⟩ = some (.int .i64 0) := (blk_cell BK468.out 8).trans rfl
                      have hcz38_9 : w20.cell? ⟨gb468, 9, none⟩ = some (.int .i64 0) := (blk_cell BK468.out 9).trans rfl
                      have hcz38_10 : w20.cell? ⟨gb468, 10, none⟩ = some (.string (⟨#[]⟩ : ByteArray)) := (blk_cell BK468.out 10).trans rfl
                      have hcz38_11 : w20.cell? ⟨gb468, 11, none⟩ = some (.int .i64 0) := (blk_cell BK468.out 11).trans rfl
                      have hcz38_12 : w20.cell? ⟨gb468, 12, none⟩ = some (.slice none 0 0) := (blk_cell BK468.out 12).trans rfl
                      have hfz38_0 := blk_frozen BK468.out 0
                      have hfz38_1 := blk_frozen BK468.out 1
                      have hfz38_2 := blk_frozen BK468.out 2
                      have hfz38_3 := blk_frozen BK468.out 3
                      have hfz38_4 := blk_frozen BK468.out 4
                      have hfz38_5 := blk_frozen BK468.out 5
                      have hfz38_6 := blk_frozen BK468.out 6
                      have hfz38_7 := blk_frozen BK468.out 7
                      have hfz38_8 := blk_frozen BK468.out 8
                      have hfz38_9 := blk_frozen BK468.out 9
                      have hfz38_10 := blk_frozen BK468.out 10
                      have hfz38_11 := blk_frozen BK468.out 11
                      have hfz38_12 := blk_frozen BK468.out 12
                      have hcz39_0 : w20.cell? ⟨gb448, 0, none⟩ = some (.int .i64 x449000_2) := (blk_cell BK448.out 0).trans rfl
                      have hcz39_1 : w20.cell? ⟨gb448, 1, none⟩ = some (.int .i64 x449001_2) := (blk_cell BK448.out 1).trans rfl
                      have hcz39_2 : w20.cell? ⟨gb448, 2, none⟩ = some (.int .i64 x449002_2) := (blk_cell BK448.out 2).trans rfl
                      have hcz39_3 : w20.cell? ⟨gb448, 3, none⟩ = some (.int .i64 x449003_2) := (blk_cell BK448.out 3).trans rfl
                      have hcz39_4 : w20.cell? ⟨gb448, 4, none⟩ = some (.int .i64 x449004_2) := (blk_cell BK448.out 4).trans rfl
                      have hcz39_5 : w20.cell? ⟨gb448, 5, none⟩ = some (.int .i64 x449005_2) := (blk_cell BK448.out 5).trans rfl
                      have hcz39_6 : w20.cell? ⟨gb448, 6, none⟩ = some (.int .i64 x449006_2) := (blk_cell BK448.out 6).trans rfl
                      have hcz39_7 : w20.cell? ⟨gb448, 7, none⟩ = some (.int .i64 x449007_2) := (blk_cell BK448.out 7).trans rfl
                      have hcz39_8 : w20.cell? ⟨gb448, 8, none⟩ = some (.int .i64 x449008_2) := (blk_cell BK448.out 8).trans rfl
                      have hcz39_9 : w20.cell? ⟨gb448, 9, none⟩ = some (.int .i64 x449009_2) := (blk_cell BK448.out 9).trans rfl
                      have hcz39_10 : w20.cell? ⟨gb448, 10, none⟩ = some (.string x449010_2) := (blk_cell BK448.out 10).trans rfl
                      have hcz39_11 : w20.cell? ⟨gb448, 11, none⟩ = some (.int .i64 x449011_2) := (blk_cell BK448.out 11).trans rfl
                      have hcz39_12 : w20.cell? ⟨gb448, 12, none⟩ = some (.slice Ao16 x449012_2.length co16) := (blk_cell BK448.out 12).trans rfl
                      have hfz39_0 := blk_frozen BK448.out 0
                      have hfz39_1 := blk_frozen BK448.out 1
                      have hfz39_2 := blk_frozen BK448.out 2
                      have hfz39_3 := blk_frozen BK448.out 3
                      have hfz39_4 := blk_frozen BK448.out 4
                      have hfz39_5 := blk_frozen BK448.out 5
                      have hfz39_6 := blk_frozen BK448.out 6
                      have hfz39_7 := blk_frozen BK448.out 7
                      have hfz39_8 := blk_frozen BK448.out 8
                      have hfz39_9 := blk_frozen BK448.out 9
                      have hfz39_10 := blk_frozen BK448.out 10
                      have hfz39_11 := blk_frozen BK448.out 11
                      have hfz39_12 := blk_frozen BK448.out 12
                      go_wp2_with (first | ((with_reducible refine gate_callee (f := 11) rfl ?_); refine goesL_ (some 46) rfl rfl Try.func11 (by kernel_rfl) rfl #[.agg #[.int .i64 t453, .int .i64 t454], .agg #[.int .i64 x449001_2, .int .i64 x449002_2]] rfl (by (try simp only [List.map_toArray, List.map_cons, List.map_nil]); first | done | rfl | (simp only [List.length_drop, List.length_take]; rfl)) ?_; (with_reducible refine (ballot_Cmp.calls k2 t453 t454 x449001_2 x449002_2 t469 _ A35.out).mono ?_); rintro e w40 ⟨rfl, hb⟩; refine ⟨_, rfl, ?_⟩; have n0_ := Aside0.mk (Kd.R_below (by (with_reducible repeat (first | apply Kd.R_alloc | apply Kd.R_drewN | apply Kd.R_drew)); exact (Kd.R_mono (Kd.R_far13 (g := gb468) (Kd.R_types HO_449012.out BK468.out (by decide)) (fun _ hk => hk.2)) (fun _ h_ => h_.1))) hb); have n1_ := Aside0.mk (Kd.R_below (by (with_reducible repeat (first | apply Kd.R_alloc | apply Kd.R_drewN | apply Kd.R_drew)); exact (Kd.R_mono (Kd.R_far13 (g := gb468) (Kd.R_types HO466.out BK468.out (by decide)) (fun _ hk => hk.2)) (fun _ h_ => h_.1))) hb); have n2_ := Aside0.mk (blk_below (g := gb448) (o := .cells #[.int .i64 x449000_2, .int .i64 x449001_2, .int .i64 x449002_2, .int .i64 x449003_2, .int .i64 x449004_2, .int .i64 x449005_2, .int .i64 x449006_2, .int .i64 x449007_2, .int .i64 x449008_2, .int .i64 x449009_2, .string x449010_2, .int .i64 x449011_2, .slice Ao16 x449012_2.length co16] 32 (0, 0)) (by (with_reducible repeat (first | refine blk_drewN ?_ _ | refine blk_drew ?_ | refine blk_alloc ?_ _)); (iterate 13 (refine blk_far ?_ NB448_468.out _)); (with_reducible repeat (first | refine blk_drewN ?_ _ | refine blk_drew ?_ | refine blk_alloc ?_ _)); exact BK448.out) hb); have n3_ := Aside0.mk (blk_below (g := gb468) (o := .cells #[.int .i64 t452, .int .i64 t453, .int .i64 t454, .int .i64 t455, .int .i64 t456, .int .i64 t457, .int .i64 t458, .int .i64 t459, .int .i64 t460, .int .i64 t461, .string t462, .int .i64 t463, .slice Ao33 t464.length co33] 32 (0, 0)) (by (with_reducible repeat (first | refine blk_drewN ?_ _ | refine blk_drew ?_ | refine blk_alloc ?_ _)); refine blk_put13 (cs := #[.int .i64 0, .int .i64 0, .int .i64 0, .int .i64 0, .int .i64 0, .int .i64 0, .int .i64 0, .int .i64 0, .int .i64 0, .int .i64 0, .string (⟨#[]⟩ : ByteArray), .int .i64 0, .slice none 0 0]) ?_ rfl; (with_reducible repeat (first | refine blk_drewN ?_ _ | refine blk_drew ?_ | refine blk_alloc ?_ _)); exact BK468.out) hb); have n4_ := Aside0.mk (below_step (by repeat (first | (with_reducible first | exact HB.out | apply below_alloc | apply pw_below_drewN | apply below_drew1 | refine below_set ?_ GE448.out | refine below_set ?_ GE468.out) | exact HB.out)) hb); clear HO_449012; clear HO466; clear BK448; clear BK468; clear HB; have HO_449012 := n0_; have HO466 := n1_; have BK448 := n2_; have BK468 := n3_; have HB := n4_; clear n0_ n1_ n2_ n3_ n4_; (try clear hb); (try clear hb2); (try clear hk); (try clear hi)))
                      go_meet
                      case rel => exact ⟨_, (true), (by first | rfl | (simp; done) | (simp [*]; done)), H', ⟨by have := HJ2.out; have := HK2.out; first | omega | exact Nat.le_refl _⟩, ⟨by (with_reducible repeat (first | apply Kd.R_alloc | apply Kd.R_drewN | apply Kd.R_drew)); exact HO_449012.out⟩, ⟨by (with_reducible repeat (first | apply Kd.R_alloc | apply Kd.R_drewN | apply Kd.R_drew)); exact HO466.out⟩, ⟨by (with_reducible repeat (first | refine blk_drewN ?_ _ | refine blk_drew ?_ | refine blk_alloc ?_ _)); exact BK448.out⟩, ⟨by (with_reducible repeat (first | refine blk_drewN ?_ _ | refine blk_drew ?_ | refine blk_alloc ?_ _)); exact BK468.out⟩, ⟨by repeat (first | (with_reducible first | exact HB.out | apply below_alloc | apply pw_below_drewN | apply below_drew1 | refine below_set ?_ GE448.out | refine below_set ?_ GE468.out) | exact HB.out)⟩⟩
                    · rw [if_neg c36] at H
                      have c36b0 : decide (t469 < 0) = false := decide_eq_false c36
                      clear c36
                      (first | rw [c36b0] | (simp only [i64_w, i32_w]; rw [c36b0]) | skip)
                      replace H := Option.bind_eq_some_iff.mp H
                      obtain ⟨t470, A410, H⟩ := H
                      replace H : (if t470 < 0 then (colloquylaw09_InstanceRises.j2 k2 l0 x5_2 true x449000_2 x449001_2 x449002_2 x449003_2 x449004_2 x449005_2 x449006_2 x449007_2 x449008_2 x449009_2 x449010_2 x449011_2 x449012_2 t452 t453 t454 t455 t456 t457 t458 t459 t460 t461 t462 t463 t464) else ((ballot_Cmp.f k2 t455 t456 t453 t454).bind fun t471 => (if t471 > 0 then (colloquylaw09_InstanceRises.j2 k2 l0 x5_2 true x449000_2 x449001_2 x449002_2 x449003_2 x449004_2 x449005_2 x449006_2 x449007_2 x449008_2 x449009_2 x449010_2 x449011_2 x449012_2 t452 t453 t454 t455 t456 t457 t458 t459 t460 t461 t462 t463 t464) else (if t452 < x449000_2 then ((ballot_Cmp.f k2 t455 t456 x449003_2 x449004_2).bind fun t472 => (colloquylaw09_InstanceRises.j2 k2 l0 x5_2 (decide (t472 ≤ 0)) x449000_2 x449001_2 x449002_2 x449003_2 x449004_2 x449005_2 x449006_2 x449007_2 x449008_2 x449009_2 x449010_2 x449011_2 x449012_2 t452 t453 t454 t455 t456 t457 t458 t459 t460 t461 t462 t463 t464)) else (colloquylaw09_InstanceRises.j2 k2 l0 x5_2 false x449000_2 x449001_2 x449002_2 x449003_2 x449004_2 x449005_2 x449006_2 x449007_2 x449008_2 x449009_2 x449010_2 x449011_2 x449012_2 t452 t453 t454 t455 t456 t457 t458 t459 t460 t461 t462 t463 t464))))) = some r := H
                      have A41 := Aside0.mk A410
                      clear A410
                      by_cases c42 : t470 < 0
                      · rw [if_pos c42] at H
                        have c42b0 : decide (t470 < 0) = true := decide_eq_true c42
                        clear c42
                        have H' := Aside0.mk H
                        clear H
                        have hnb43 := NB468_448.out
                        have hnc43 := NB448_468.out
                        have hcz44_0 : w20.cell? ⟨gb468, 0, none⟩ = some (.int .i64 0) := (blk_cell BK468.out 0).trans rfl
                        have hcz44_1 : w20.cell? ⟨gb468, 1, none⟩ = some (.int .i64 0) := (blk_cell BK468.out 1).trans rfl
                        have hcz44_2 : w20.cell? ⟨gb468, 2, none⟩ = some (.int .i64 0) := (blk_cell BK468.out 2).trans rfl
                        have hcz44_3 : w20.cell? ⟨gb468, 3, none⟩ = some (.int .i64 0) := (blk_cell BK468.out 3).trans rfl
                        have hcz44_4 : w20.cell? ⟨gb468, 4, none⟩ = some (.int .i64 0) := (blk_cell BK468.out 4).trans rfl
                        have hcz44_5 : w20.cell? ⟨gb468, 5, none⟩ = some (.int .i64 0) := (blk_cell BK468.out 5).trans rfl
                        have hcz44_6 : w20.cell? ⟨gb468, 6, none⟩ = some (.int .i64 0) := (blk_cell BK468.out 6).trans rfl
                        have hcz44_7 : w20.cell? ⟨gb468, 7, none⟩ = some (.int .i64 0) := (blk_cell BK468.out 7).trans rfl
                        have hcz44_8 : w20.cell? ⟨gb468, 8, none⟩ = some (.int .i64 0) := (blk_cell BK468.out 8).trans rfl
                        have hcz44_9 : w20.cell? ⟨gb468, 9, none⟩ = some (.int .i64 0) := (blk_cell BK468.out 9).trans rfl
                        have hcz44_10 : w20.cell? ⟨gb468, 10, none⟩ = some (.string (⟨#[]⟩ : ByteArray)) := (blk_cell BK468.out 10).trans rfl
                        have hcz44_11 : w20.cell? ⟨gb468, 11, none⟩ = some (.int .i64 0) := (blk_cell BK468.out 11).trans rfl
                        have hcz44_12 : w20.cell? ⟨gb468, 12, none⟩ = some (.slice none 0 0) := (blk_cell BK468.out 12).trans rfl
                        have hfz44_0 := blk_frozen BK468.out 0
                        have hfz44_1 := blk_frozen BK468.out 1
                        have hfz44_2 := blk_frozen BK468.out 2
                        have hfz44_3 := blk_frozen BK468.out 3
                        have hfz44_4 := blk_frozen BK468.out 4
                        have hfz44_5 := blk_frozen BK468.out 5
                        have hfz44_6 := blk_frozen BK468.out 6
                        have hfz44_7 := blk_frozen BK468.out 7
                        have hfz44_8 := blk_frozen BK468.out 8
                        have hfz44_9 := blk_frozen BK468.out 9
                        have hfz44_10 := blk_frozen BK468.out 10
                        have hfz44_11 := blk_frozen BK468.out 11
                        have hfz44_12 := blk_frozen BK468.out 12
                        have hcz45_0 : w20.cell? ⟨gb448, 0, none⟩ = some (.int .i64 x449000_2) := (blk_cell BK448.out 0).trans rfl
                        have hcz45_1 : w20.cell? ⟨gb448, 1, none⟩ = some (.int .i64 x449001_2) := (blk_cell BK448.out 1).trans rfl
                        have hcz45_2 : w20.cell? ⟨gb448, 2, none⟩ = some (.int .i64 x449002_2) := (blk_cell BK448.out 2).trans rfl
                        have hcz45_3 : w20.cell? ⟨gb448, 3, none⟩ = some (.int .i64 x449003_2) := (blk_cell BK448.out 3).trans rfl
                        have hcz45_4 : w20.cell? ⟨gb448, 4, none⟩ = some (.int .i64 x449004_2) := (blk_cell BK448.out 4).trans rfl
                        have hcz45_5 : w20.cell? ⟨gb448, 5, none⟩ = some (.int .i64 x449005_2) := (blk_cell BK448.out 5).trans rfl
                        have hcz45_6 : w20.cell? ⟨gb448, 6, none⟩ = some (.int .i64 x449006_2) := (blk_cell BK448.out 6).trans rfl
                        have hcz45_7 : w20.cell? ⟨gb448, 7, none⟩ = some (.int .i64 x449007_2) := (blk_cell BK448.out 7).trans rfl
                        have hcz45_8 : w20.cell? ⟨gb448, 8, none⟩ = some (.int .i64 x449008_2) := (blk_cell BK448.out 8).trans rfl
                        have hcz45_9 : w20.cell? ⟨gb448, 9, none⟩ = some (.int .i64 x449009_2) := (blk_cell BK448.out 9).trans rfl
                        have hcz45_10 : w20.cell? ⟨gb448, 10, none⟩ = some (.string x449010_2) := (blk_cell BK448.out 10).trans rfl
                        have hcz45_11 : w20.cell? ⟨gb448, 11, none⟩ = some (.int .i64 x449011_2) := (blk_cell BK448.out 11).trans rfl
                        have hcz45_12 : w20.cell? ⟨gb448, 12, none⟩ = some (.slice Ao16 x449012_2.length co16) := (blk_cell BK448.out 12).trans rfl
                        have hfz45_0 := blk_frozen BK448.out 0
                        have hfz45_1 := blk_frozen BK448.out 1
                        have hfz45_2 := blk_frozen BK448.out 2
                        have hfz45_3 := blk_frozen BK448.out 3
                        have hfz45_4 := blk_frozen BK448.out 4
                        have hfz45_5 := blk_frozen BK448.out 5
                        have hfz45_6 := blk_frozen BK448.out 6
                        have hfz45_7 := blk_frozen BK448.out 7
                        have hfz45_8 := blk_frozen BK448.out 8
                        have hfz45_9 := blk_frozen BK448.out 9
                        have hfz45_10 := blk_frozen BK448.out 10
                        have hfz45_11 := blk_frozen BK448.out 11
                        have hfz45_12 := blk_frozen BK448.out 12
                        go_wp2_with (first | ((with_reducible refine gate_callee (f := 11) rfl ?_); refine goesL_ (some 46) rfl rfl Try.func11 (by kernel_rfl) rfl #[.agg #[.int .i64 t453, .int .i64 t454], .agg #[.int .i64 x449001_2, .int .i64 x449002_2]] rfl (by (try simp only [List.map_toArray, List.map_cons, List.map_nil]); first | done | rfl | (simp only [List.length_drop, List.length_take]; rfl)) ?_; (with_reducible refine (ballot_Cmp.calls k2 t453 t454 x449001_2 x449002_2 t469 _ A35.out).mono ?_); rintro e w46 ⟨rfl, hb⟩; refine ⟨_, rfl, ?_⟩; have n0_ := Aside0.mk (Kd.R_below (by (with_reducible repeat (first | apply Kd.R_alloc | apply Kd.R_drewN | apply Kd.R_drew)); exact (Kd.R_mono (Kd.R_far13 (g := gb468) (Kd.R_types HO_449012.out BK468.out (by decide)) (fun _ hk => hk.2)) (fun _ h_ => h_.1))) hb); have n1_ := Aside0.mk (Kd.R_below (by (with_reducible repeat (first | apply Kd.R_alloc | apply Kd.R_drewN | apply Kd.R_drew)); exact (Kd.R_mono (Kd.R_far13 (g := gb468) (Kd.R_types HO466.out BK468.out (by decide)) (fun _ hk => hk.2)) (fun _ h_ => h_.1))) hb); have n2_ := Aside0.mk (blk_below (g := gb448) (o := .cells #[.int .i64 x449000_2, .int .i64 x449001_2, .int .i64 x449002_2, .int .i64 x449003_2, .int .i64 x449004_2, .int .i64 x449005_2, .int .i64 x449006_2, .int .i64 x449007_2, .int .i64 x449008_2, .int .i64 x449009_2, .string x449010_2, .int .i64 x449011_2, .slice Ao16 x449012_2.length co16] 32 (0, 0)) (by (with_reducible repeat (first | refine blk_drewN ?_ _ | refine blk_drew ?_ | refine blk_alloc ?_ _)); (iterate 13 (refine blk_far ?_ NB448_468.out _)); (with_reducible repeat (first | refine blk_drewN ?_ _ | refine blk_drew ?_ | refine blk_alloc ?_ _)); exact BK448.out) hb); have n3_ := Aside0.mk (blk_below (g := gb468) (o := .cells #[.int .i64 t452, .int .i64 t453, .int .i64 t454, .int .i64 t455, .int .i64 t456, .int .i64 t457, .int .i64 t458, .int .i64 t459, .int .i64 t460, .int .i64 t461, .string t462, .int .i64 t463, .slice Ao33 t464.length co33] 32 (0, 0)) (by (with_reducible repeat (first | refine blk_drewN ?_ _ | refine blk_drew ?_ | refine blk_alloc ?_ _)); refine blk_put13 (cs := #[.int .i64 0, .int .i64 0, .int .i64 0, .int .i64 0, .int .i64 0, .int .i64 0, .int .i64 0, .int .i64 0, .int .i64 0, .int .i64 0, .string (⟨#[]⟩ : ByteArray), .int .i64 0, .slice none 0 0]) ?_ rfl; (with_reducible repeat (first | refine blk_drewN ?_ _ | refine blk_drew ?_ | refine blk_alloc ?_ _)); exact BK468.out) hb); have n4_ := Aside0.mk (below_step (by repeat (first | (with_reducible first | exact HB.out | apply below_alloc | apply pw_below_drewN | apply below_drew1 | refine below_set ?_ GE448.out | refine below_set ?_ GE468.out) | exact HB.out)) hb); clear HO_449012; clear HO466; clear BK448; clear BK468; clear HB; have HO_449012 := n0_; have HO466 := n1_; have BK448 := n2_; have BK468 := n3_; have HB := n4_; clear n0_ n1_ n2_ n3_ n4_; (try clear hb); (try clear hb2); (try clear hk); (try clear hi); have hcz47_0 : w46.cell? ⟨gb468, 0, none⟩ = some (.int .i64 t452) := (blk_cell BK468.out 0).trans rfl; have hcz47_1 : w46.cell? ⟨gb468, 1, none⟩ = some (.int .i64 t453) := (blk_cell BK468.out 1).trans rfl; have hcz47_2 : w46.cell? ⟨gb468, 2, none⟩ = some (.int .i64 t454) := (blk_cell BK468.out 2).trans rfl; have hcz47_3 : w46.cell? ⟨gb468, 3, none⟩ = some (.int .i64 t455) := (blk_cell BK468.out 3).trans rfl; have hcz47_4 : w46.cell? ⟨gb468, 4, none⟩ = some (.int .i64 t456) := (blk_cell BK468.out 4).trans rfl; have hcz47_5 : w46.cell? ⟨gb468, 5, none⟩ = some (.int .i64 t457) := (blk_cell BK468.out 5).trans rfl; have hcz47_6 : w46.cell? ⟨gb468, 6, none⟩ = some (.int .i64 t458) := (blk_cell BK468.out 6).trans rfl; have hcz47_7 : w46.cell? ⟨gb468, 7, none⟩ = some (.int .i64 t459) := (blk_cell BK468.out 7).trans rfl; have hcz47_8 : w46.cell? ⟨gb468, 8, none⟩ = some (.int .i64 t460) := (blk_cell BK468.out 8).trans rfl; have hcz47_9 : w46.cell? ⟨gb468, 9, none⟩ = some (.int .i64 t461) := (blk_cell BK468.out 9).trans rfl; have hcz47_10 : w46.cell? ⟨gb468, 10, none⟩ = some (.string t462) := (blk_cell BK468.out 10).trans rfl; have hcz47_11 : w46.cell? ⟨gb468, 11, none⟩ = some (.int .i64 t463) := (blk_cell BK468.out 11).trans rfl; have hcz47_12 : w46.cell? ⟨gb468, 12, none⟩ = some (.slice Ao33 t464.length co33) := (blk_cell BK468.out 12).trans rfl; have hfz47_0 := blk_frozen BK468.out 0; have hfz47_1 := blk_frozen BK468.out 1; have hfz47_2 := blk_frozen BK468.out 2; have hfz47_3 := blk_frozen BK468.out 3; have hfz47_4 := blk_frozen BK468.out 4; have hfz47_5 := blk_frozen BK468.out 5; have hfz47_6 := blk_frozen BK468.out 6; have hfz47_7 := blk_frozen BK468.out 7; have hfz47_8 := blk_frozen BK468.out 8; have hfz47_9 := blk_frozen BK468.out 9; have hfz47_10 := blk_frozen BK468.out 10; have hfz47_11 := blk_frozen BK468.out 11; have hfz47_12 := blk_frozen BK468.out 12; have hcz48_0 : w46.cell? ⟨gb448, 0, none⟩ = some (.int .i64 x449000_2) := (blk_cell BK448.out 0).trans rfl; have hcz48_1 : w46.cell? ⟨gb448, 1, none⟩ = some (.int .i64 x449001_2) := (blk_cell BK448.out 1).trans rfl; have hcz48_2 : w46.cell? ⟨gb448, 2, none⟩ = some (.int .i64 x449002_2) := (blk_cell BK448.out 2).trans rfl; have hcz48_3 : w46.cell? ⟨gb448, 3, none⟩ = some (.int .i64 x449003_2) := (blk_cell BK448.out 3).trans rfl; have hcz48_4 : w46.cell? ⟨gb448, 4, none⟩ = some (.int .i64 x449004_2) := (blk_cell BK448.out 4).trans rfl; have hcz48_5 : w46.cell? ⟨gb448, 5, none⟩ = some (.int .i64 x449005_2) := (blk_cell BK448.out 5).trans rfl; have hcz48_6 : w46.cell? ⟨gb448, 6, none⟩ = some (.int .i64 x449006_2) := (blk_cell BK448.out 6).trans rfl; have hcz48_7 : w46.cell? ⟨gb448, 7, none⟩ = some (.int .i64 x449007_2) := (blk_cell BK448.out 7).trans rfl; have hcz48_8 : w46.cell? ⟨gb448, 8, none⟩ = some (.int .i64 x449008_2) := (blk_cell BK448.out 8).trans rfl; have hcz48_9 : w46.cell? ⟨gb448, 9, none⟩ = some (.int .i64 x449009_2) := (blk_cell BK448.out 9).trans rfl; have hcz48_10 : w46.cell? ⟨gb448, 10, none⟩ = some (.string x449010_2) := (blk_cell BK448.out 10).trans rfl; have hcz48_11 : w46.cell? ⟨gb448, 11, none⟩ = some (.int .i64 x449011_2) := (blk_cell BK448.out 11).trans rfl; have hcz48_12 : w46.cell? ⟨gb448, 12, none⟩ = some (.slice Ao16 x449012_2.length co16) := (blk_cell BK448.out 12).trans rfl; have hfz48_0 := blk_frozen BK448.out 0; have hfz48_1 := blk_frozen BK448.out 1; have hfz48_2 := blk_frozen BK448.out 2; have hfz48_3 := blk_frozen BK448.out 3; have hfz48_4 := blk_frozen BK448.out 4; have hfz48_5 := blk_frozen BK448.out 5; have hfz48_6 := blk_frozen BK448.out 6; have hfz48_7 := blk_frozen BK448.out 7; have hfz48_8 := blk_frozen BK448.out 8; have hfz48_9 := blk_frozen BK448.out 9; have hfz48_10 := blk_frozen BK448.out 10; have hfz48_11 := blk_frozen BK448.out 11; have hfz48_12 := blk_frozen BK448.out 12) | (go_at_call 11; (with_reducible refine (ballot_Cmp.calls k2 t455 t456 x449003_2 x449004_2 t470 _ A41.out).mono ?_); rintro e w49 ⟨rfl, hb⟩; have n0_ := Aside0.mk (Kd.R_below (by (with_reducible repeat (first | apply Kd.R_alloc | apply Kd.R_drewN | apply Kd.R_drew)); exact HO_449012.out) hb); have n1_ := Aside0.mk (Kd.R_below (by (with_reducible repeat (first | apply Kd.R_alloc | apply Kd.R_drewN | apply Kd.R_drew)); exact HO466.out) hb); have n2_ := Aside0.mk (blk_below (g := gb448) (by (with_reducible repeat (first | refine blk_drewN ?_ _ | refine blk_drew ?_ | refine blk_alloc ?_ _)); exact BK448.out) hb); have n3_ := Aside0.mk (blk_below (g := gb468) (by (with_reducible repeat (first | refine blk_drewN ?_ _ | refine blk_drew ?_ | refine blk_alloc ?_ _)); exact BK468.out) hb); have n4_ := Aside0.mk (below_step (by repeat (first | (with_reducible first | exact HB.out | apply below_alloc | apply pw_below_drewN | apply below_drew1 | refine below_set ?_ GE448.out | refine below_set ?_ GE468.out) | exact HB.out)) hb); clear HO_449012; clear HO466; clear BK448; clear BK468; clear HB; have HO_449012 := n0_; have HO466 := n1_; have BK448 := n2_; have BK468 := n3_; have HB := n4_; clear n0_ n1_ n2_ n3_ n4_; (try clear hb); (try clear hb2); (try clear hk); (try clear hi)))
                        go_meet
                        case rel => exact ⟨_, (true), (by first | rfl | (simp; done) | (simp [*]; done)), H', ⟨by have := HJ2.out; have := HK2.out; first | omega | exact Nat.le_refl _⟩, ⟨by (with_reducible repeat (first | apply Kd.R_alloc | apply Kd.R_drewN | apply Kd.R_drew)); exact HO_449012.out⟩, ⟨by (with_reducible repeat (first | apply Kd.R_alloc | apply Kd.R_drewN | apply Kd.R_drew)); exact HO466.out⟩, ⟨by (with_reducible repeat (first | refine blk_drewN ?_ _ | refine blk_drew ?_ | refine blk_alloc ?_ _)); exact BK448.out⟩, ⟨by (with_reducible repeat (first | refine blk_drewN ?_ _ | refine blk_drew ?_ | refine blk_alloc ?_ _)); exact BK468.out⟩, ⟨by repeat (first | (with_reducible first | exact HB.out | apply below_alloc | apply pw_below_drewN | apply below_drew1 | refine below_set ?_ GE448.out | refine below_set ?_ GE468.out) | exact HB.out)⟩⟩
                      · rw [if_neg c42] at H
                        have c42b0 : decide (t470 < 0) = false := decide_eq_false c42
                        clear c42
                        replace H := Option.bind_eq_some_iff.mp H
                        obtain ⟨t471, A500, H⟩ := H
                        replace H : (if t471 > 0 then (colloquylaw09_InstanceRises.j2 k2 l0 x5_2 true x449000_2 x449001_2 x449002_2 x449003_2 x449004_2 x449005_2 x449006_2 x449007_2 x449008_2 x449009_2 x449010_2 x449011_2 x449012_2 t452 t453 t454 t455 t456 t457 t458 t459 t460 t461 t462 t463 t464) else (if t452 < x449000_2 then ((ballot_Cmp.f k2 t455 t456 x449003_2 x449004_2).bind fun t472 => (colloquylaw09_InstanceRises.j2 k2 l0 x5_2 (decide (t472 ≤ 0)) x449000_2 x449001_2 x449002_2 x449003_2 x449004_2 x449005_2 x449006_2 x449007_2 x449008_2 x449009_2 x449010_2 x449011_2 x449012_2 t452 t453 t454 t455 t456 t457 t458 t459 t460 t461 t462 t463 t464)) else (colloquylaw09_InstanceRises.j2 k2 l0 x5_2 false x449000_2 x449001_2 x449002_2 x449003_2 x449004_2 x449005_2 x449006_2 x449007_2 x449008_2 x449009_2 x449010_2 x449011_2 x449012_2 t452 t453 t454 t455 t456 t457 t458 t459 t460 t461 t462 t463 t464))) = some r := H
                        have A50 := Aside0.mk A500
                        clear A500
                        by_cases c51 : t471 > 0
                        · rw [if_pos c51] at H
                          have c51b0 : decide (0 < t471) = true := decide_eq_true c51
                          clear c51
                          have H' := Aside0.mk H
                          clear H
                          have hnb52 := NB468_448.out
                          have hnc52 := NB448_468.out
                          have hcz53_0 : w20.cell? ⟨gb468, 0, none⟩ = some (.int .i64 0) := (blk_cell BK468.out 0).trans rfl
                          have hcz53_1 : w20.cell? ⟨gb468, 1, none⟩ = some (.int .i64 0) := (blk_cell BK468.out 1).trans rfl
                          have hcz53_2 : w20.cell? ⟨gb468, 2, none⟩ = some (.int .i64 0) := (blk_cell BK468.out 2).trans rfl
                          have hcz53_3 : w20.cell? ⟨gb468, 3, none⟩ = some (.int .i64 0) := (blk_cell BK468.out 3).trans rfl
                          have hcz53_4 : w20.cell? ⟨gb468, 4, none⟩ = some (.int .i64 0) := (blk_cell BK468.out 4).trans rfl
                          have hcz53_5 : w20.cell? ⟨gb468, 5, none⟩ = some (.int .i64 0) := (blk_cell BK468.out 5).trans rfl
                          have hcz53_6 : w20.cell? ⟨gb468, 6, none⟩ = some (.int .i64 0) := (blk_cell BK468.out 6).trans rfl
                          have hcz53_7 : w20.cell? ⟨gb468, 7, none⟩ = some (.int .i64 0) := (blk_cell BK468.out 7).trans rfl
                          have hcz53_8 : w20.cell? ⟨gb468, 8, none⟩ = some (.int .i64 0) := (blk_cell BK468.out 8).trans rfl
                          have hcz53_9 : w20.cell? ⟨gb468, 9, none⟩ = some (.int .i64 0) := (blk_cell BK468.out 9).trans rfl
                          have hcz53_10 : w20.cell? ⟨gb468, 10, none⟩ = some (.string (⟨#[]⟩ : ByteArray)) := (blk_cell BK468.out 10).trans rfl
                          have hcz53_11 : w20.cell? ⟨gb468, 11, none⟩ = some (.int .i64 0) := (blk_cell BK468.out 11).trans rfl
                          have hcz53_12 : w20.cell? ⟨gb468, 12, none⟩ = some (.slice none 0 0) := (blk_cell BK468.out 12).trans rfl
                          have hfz53_0 := blk_frozen BK468.out 0
                          have hfz53_1 := blk_frozen BK468.out 1
                          have hfz53_2 := blk_frozen BK468.out 2
                          have hfz53_3 := blk_frozen BK468.out 3
                          have hfz53_4 := blk_frozen BK468.out 4
                          have hfz53_5 := blk_frozen BK468.out 5
                          have hfz53_6 := blk_frozen BK468.out 6
                          have hfz53_7 := blk_frozen BK468.out 7
                          have hfz53_8 := blk_frozen BK468.out 8
                          have hfz53_9 := blk_frozen BK468.out 9
                          have hfz53_10 := blk_frozen BK468.out 10
                          have hfz53_11 := blk_frozen BK468.out 11
                          have hfz53_12 := blk_frozen BK468.out 12
                          have hcz54_0 : w20.cell? ⟨gb448, 0, none⟩ = some (.int .i64 x449000_2) := (blk_cell BK448.out 0).trans rfl
                          have hcz54_1 : w20.cell? ⟨gb448, 1, none⟩ = some (.int .i64 x449001_2) := (blk_cell BK448.out 1).trans rfl
                          have hcz54_2 : w20.cell? ⟨gb448, 2, none⟩ = some (.int .i64 x449002_2) := (blk_cell BK448.out 2).trans rfl
                          have hcz54_3 : w20.cell? ⟨gb448, 3, none⟩ = some (.int .i64 x449003_2) := (blk_cell BK448.out 3).trans rfl
                          have hcz54_4 : w20.cell? ⟨gb448, 4, none⟩ = some (.int .i64 x449004_2) := (blk_cell BK448.out 4).trans rfl
                          have hcz54_5 : w20.cell? ⟨gb448, 5, none⟩ = some (.int .i64 x449005_2) := (blk_cell BK448.out 5).trans rfl
                          have hcz54_6 : w20.cell? ⟨gb448, 6, none⟩ = some (.int .i64 x449006_2) := (blk_cell BK448.out 6).trans rfl
                          have hcz54_7 : w20.cell? ⟨gb448, 7, none⟩ = some (.int .i64 x449007_2) := (blk_cell BK448.out 7).trans rfl
                          have hcz54_8 : w20.cell? ⟨gb448, 8, none⟩ = some (.int .i64 x449008_2) := (blk_cell BK448.out 8).trans rfl
                          have hcz54_9 : w20.cell? ⟨gb448, 9, none⟩ = some (.int .i64 x449009_2) := (blk_cell BK448.out 9).trans rfl
                          have hcz54_10 : w20.cell? ⟨gb448, 10, none⟩ = some (.string x449010_2) := (blk_cell BK448.out 10).trans rfl
                          have hcz54_11 : w20.cell? ⟨gb448, 11, none⟩ = some (.int .i64 x449011_2) := (blk_cell BK448.out 11).trans rfl
                          have hcz54_12 : w20.cell? ⟨gb448, 12, none⟩ = some (.slice Ao16 x449012_2.length co16) := (blk_cell BK448.out 12).trans rfl
                          have hfz54_0 := blk_frozen BK448.out 0
                          have hfz54_1 := blk_frozen BK448.out 1
                          have hfz54_2 := blk_frozen BK448.out 2
                          have hfz54_3 := blk_frozen BK448.out 3
                          have hfz54_4 := blk_frozen BK448.out 4
                          have hfz54_5 := blk_frozen BK448.out 5
                          have hfz54_6 := blk_frozen BK448.out 6
                          have hfz54_7 := blk_frozen BK448.out 7
                          have hfz54_8 := blk_frozen BK448.out 8
                          have hfz54_9 := blk_frozen BK448.out 9
                          have hfz54_10 := blk_frozen BK448.out 10
                          have hfz54_11 := blk_frozen BK448.out 11
                          have hfz54_12 := blk_frozen BK448.out 12
                          go_wp2_with (first | ((with_reducible refine gate_callee (f := 11) rfl ?_); refine goesL_ (some 46) rfl rfl Try.func11 (by kernel_rfl) rfl #[.agg #[.int .i64 t453, .int .i64 t454], .agg #[.int .i64 x449001_2, .int .i64 x449002_2]] rfl (by (try simp only [List.map_toArray, List.map_cons, List.map_nil]); first | done | rfl | (simp only [List.length_drop, List.length_take]; rfl)) ?_; (with_reducible refine (ballot_Cmp.calls k2 t453 t454 x449001_2 x449002_2 t469 _ A35.out).mono ?_); rintro e w55 ⟨rfl, hb⟩; refine ⟨_, rfl, ?_⟩; have n0_ := Aside0.mk (Kd.R_below (by (with_reducible repeat (first | apply Kd.R_alloc | apply Kd.R_drewN | apply Kd.R_drew)); exact (Kd.R_mono (Kd.R_far13 (g := gb468) (Kd.R_types HO_449012.out BK468.out (by decide)) (fun _ hk => hk.2)) (fun _ h_ => h_.1))) hb); have n1_ := Aside0.mk (Kd.R_below (by (with_reducible repeat (first | apply Kd.R_alloc | apply Kd.R_drewN | apply Kd.R_drew)); exact (Kd.R_mono (Kd.R_far13 (g := gb468) (Kd.R_types HO466.out BK468.out (by decide)) (fun _ hk => hk.2)) (fun _ h_ => h_.1))) hb); have n2_ := Aside0.mk (blk_below (g := gb448) (o := .cells #[.int .i64 x449000_2, .int .i64 x449001_2, .int .i64 x449002_2, .int .i64 x449003_2, .int .i64 x449004_2, .int .i64 x449005_2, .int .i64 x449006_2, .int .i64 x449007_2, .int .i64 x449008_2, .int .i64 x449009_2, .string x449010_2, .int .i64 x449011_2, .slice Ao16 x449012_2.length co16] 32 (0, 0)) (by (with_reducible repeat (first | refine blk_drewN ?_ _ | refine blk_drew ?_ | refine blk_alloc ?_ _)); (iterate 13 (refine blk_far ?_ NB448_468.out _)); (with_reducible repeat (first | refine blk_drewN ?_ _ | refine blk_drew ?_ | refine blk_alloc ?_ _)); exact BK448.out) hb); have n3_ := Aside0.mk (blk_below (g := gb468) (o := .cells #[.int .i64 t452, .int .i64 t453, .int .i64 t454, .int .i64 t455, .int .i64 t456, .int .i64 t457, .int .i64 t458, .int .i64 t459, .int .i64 t460, .int .i64 t461, .string t462, .int .i64 t463, .slice Ao33 t464.length co33] 32 (0, 0)) (by (with_reducible repeat (first | refine blk_drewN ?_ _ | refine blk_drew ?_ | refine blk_alloc ?_ _)); refine blk_put13 (cs := #[.int .i64 0, .int .i64 0, .int .i64 0, .int .i64 0, .int .i64 0, .int .i64 0, .int .i64 0, .int .i64 0, .int .i64 0, .int .i64 0, .string (⟨#[]⟩ : ByteArray), .int .i64 0, .slice none 0 0]) ?_ rfl; (with_reducible repeat (first | refine blk_drewN ?_ _ | refine blk_drew ?_ | refine blk_alloc ?_ _)); exact BK468.out) hb); have n4_ := Aside0.mk (below_step (by repeat (first | (with_reducible first | exact HB.out | apply below_alloc | apply pw_below_drewN | apply below_drew1 | refine below_set ?_ GE448.out | refine below_set ?_ GE468.out) | exact HB.out)) hb); clear HO_449012; clear HO466; clear BK448; clear BK468; clear HB; have HO_449012 := n0_; have HO466 := n1_; have BK448 := n2_; have BK468 := n3_; have HB := n4_; clear n0_ n1_ n2_ n3_ n4_; (try clear hb); (try clear hb2); (try clear hk); (try clear hi); have hcz56_0 : w55.cell? ⟨gb468, 0, none⟩ = some (.int .i64 t452) := (blk_cell BK468.out 0).trans rfl; have hcz56_1 : w55.cell? ⟨gb468, 1, none⟩ = some (.int .i64 t453) := (blk_cell BK468.out 1).trans rfl; have hcz56_2 : w55.cell? ⟨gb468, 2, none⟩ = some (.int .i64 t454) := (blk_cell BK468.out 2).trans rfl; have hcz56_3 : w55.cell? ⟨gb468, 3, none⟩ = some (.int .i64 t455) := (blk_cell BK468.out 3).trans rfl; have hcz56_4 : w55.cell? ⟨gb468, 4, none⟩ = some (.int .i64 t456) := (blk_cell BK468.out 4).trans rfl; have hcz56_5 : w55.cell? ⟨gb468, 5, none⟩ = some (.int .i64 t457) := (blk_cell BK468.out 5).trans rfl; have hcz56_6 : w55.cell? ⟨gb468, 6, none⟩ = some (.int .i64 t458) := (blk_cell BK468.out 6).trans rfl; have hcz56_7 : w55.cell? ⟨gb468, 7, none⟩ = some (.int .i64 t459) := (blk_cell BK468.out 7).trans rfl; have hcz56_8 : w55.cell? ⟨gb468, 8, none⟩ = some (.int .i64 t460) := (blk_cell BK468.out 8).trans rfl; have hcz56_9 : w55.cell? ⟨gb468, 9, none⟩ = some (.int .i64 t461) := (blk_cell BK468.out 9).trans rfl; have hcz56_10 : w55.cell? ⟨gb468, 10, none⟩ = some (.string t462) := (blk_cell BK468.out 10).trans rfl; have hcz56_11 : w55.cell? ⟨gb468, 11, none⟩ = some (.int .i64 t463) := (blk_cell BK468.out 11).trans rfl; have hcz56_12 : w55.cell? ⟨gb468, 12, none⟩ = some (.slice Ao33 t464.length co33) := (blk_cell BK468.out 12).trans rfl; have hfz56_0 := blk_frozen BK468.out 0; have hfz56_1 := blk_frozen BK468.out 1; have hfz56_2 := blk_frozen BK468.out 2; have hfz56_3 := blk_frozen BK468.out 3; have hfz56_4 := blk_frozen BK468.out 4; have hfz56_5 := blk_frozen BK468.out 5; have hfz56_6 := blk_frozen BK468.out 6; have hfz56_7 := blk_frozen BK468.out 7; have hfz56_8 := blk_frozen BK468.out 8; have hfz56_9 := blk_frozen BK468.out 9; have hfz56_10 := blk_frozen BK468.out 10; have hfz56_11 := blk_frozen BK468.out 11; have hfz56_12 := blk_frozen BK468.out 12; have hcz57_0 : w55.cell? ⟨gb448, 0, none⟩ = some (.int .i64 x449000_2) := (blk_cell BK448.out 0).trans rfl; have hcz57_1 : w55.cell? ⟨gb448, 1, none⟩ = some (.int .i64 x449001_2) := (blk_cell BK448.out 1).trans rfl; have hcz57_2 : w55.cell? ⟨gb448, 2, none⟩ = some (.int .i64 x449002_2) := (blk_cell BK448.out 2).trans rfl; have hcz57_3 : w55.cell? ⟨gb448, 3, none⟩ = some (.int .i64 x449003_2) := (blk_cell BK448.out 3).trans rfl; have hcz57_4 : w55.cell? ⟨gb448, 4, none⟩ = some (.int .i64 x449004_2) := (blk_cell BK448.out 4).trans rfl; have hcz57_5 : w55.cell? ⟨gb448, 5, none⟩ = some (.int .i64 x449005_2) := (blk_cell BK448.out 5).trans rfl; have hcz57_6 : w55.cell? ⟨gb448, 6, none⟩ = some (.int .i64 x449006_2) := (blk_cell BK448.out 6).trans rfl; have hcz57_7 : w55.cell? ⟨gb448, 7, none⟩ = some (.int .i64 x449007_2) := (blk_cell BK448.out 7).trans rfl; have hcz57_8 : w55.cell? ⟨gb448, 8, none⟩ = some (.int .i64 x449008_2) := (blk_cell BK448.out 8).trans rfl; have hcz57_9 : w55.cell? ⟨gb448, 9, none⟩ = some (.int .i64 x449009_2) := (blk_cell BK448.out 9).trans rfl; have hcz57_10 : w55.cell? ⟨gb448, 10, none⟩ = some (.string x449010_2) := (blk_cell BK448.out 10).trans rfl; have hcz57_11 : w55.cell? ⟨gb448, 11, none⟩ = some (.int .i64 x449011_2) := (blk_cell BK448.out 11).trans rfl; have hcz57_12 : w55.cell? ⟨gb448, 12, none⟩ = some (.slice Ao16 x449012_2.length co16) := (blk_cell BK448.out 12).trans rfl; have hfz57_0 := blk_frozen BK448.out 0; have hfz57_1 := blk_frozen BK448.out 1; have hfz57_2 := blk_frozen BK448.out 2; have hfz57_3 := blk_frozen BK448.out 3; have hfz57_4 := blk_frozen BK448.out 4; have hfz57_5 := blk_frozen BK448.out 5; have hfz57_6 := blk_frozen BK448.out 6; have hfz57_7 := blk_frozen BK448.out 7; have hfz57_8 := blk_frozen BK448.out 8; have hfz57_9 := blk_frozen BK448.out 9; have hfz57_10 := blk_frozen BK448.out 10; have hfz57_11 := blk_frozen BK448.out 11; have hfz57_12 := blk_frozen BK448.out 12) | (go_at_call 11; (with_reducible refine (ballot_Cmp.calls k2 t455 t456 x449003_2 x449004_2 t470 _ A41.out).mono ?_); rintro e w58 ⟨rfl, hb⟩; have n0_ := Aside0.mk (Kd.R_below (by (with_reducible repeat (first | apply Kd.R_alloc | apply Kd.R_drewN | apply Kd.R_drew)); exact HO_449012.out) hb); have n1_ := Aside0.mk (Kd.R_below (by (with_reducible repeat (first | apply Kd.R_alloc | apply Kd.R_drewN | apply Kd.R_drew)); exact HO466.out) hb); have n2_ := Aside0.mk (blk_below (g := gb448) (by (with_reducible repeat (first | refine blk_drewN ?_ _ | refine blk_drew ?_ | refine blk_alloc ?_ _)); exact BK448.out) hb); have n3_ := Aside0.mk (blk_below (g := gb468) (by (with_reducible repeat (first | refine blk_drewN ?_ _ | refine blk_drew ?_ | refine blk_alloc ?_ _)); exact BK468.out) hb); have n4_ := Aside0.mk (below_step (by repeat (first | (with_reducible first | exact HB.out | apply below_alloc | apply pw_below_drewN | apply below_drew1 | refine below_set ?_ GE448.out | refine below_set ?_ GE468.out) | exact HB.out)) hb); clear HO_449012; clear HO466; clear BK448; clear BK468; clear HB; have HO_449012 := n0_; have HO466 := n1_; have BK448 := n2_; have BK468 := n3_; have HB := n4_; clear n0_ n1_ n2_ n3_ n4_; (try clear hb); (try clear hb2); (try clear hk); (try clear hi); have hcz59_0 : w58.cell? ⟨gb468, 0, none⟩ = some (.int .i64 t452) := (blk_cell BK468.out 0).trans rfl; have hcz59_1 : w58.cell? ⟨gb468, 1, none⟩ = some (.int .i64 t453) := (blk_cell BK468.out 1).trans rfl; have hcz59_2 : w58.cell? ⟨gb468, 2, none⟩ = some (.int .i64 t454) := (blk_cell BK468.out 2).trans rfl; have hcz59_3 : w58.cell? ⟨gb468, 3, none⟩ = some (.int .i64 t455) := (blk_cell BK468.out 3).trans rfl; have hcz59_4 : w58.cell? ⟨gb468, 4, none⟩ = some (.int .i64 t456) := (blk_cell BK468.out 4).trans rfl; have hcz59_5 : w58.cell? ⟨gb468, 5, none⟩ = some (.int .i64 t457) := (blk_cell BK468.out 5).trans rfl; have hcz59_6 : w58.cell? ⟨gb468, 6, none⟩ = some (.int .i64 t458) := (blk_cell BK468.out 6).trans rfl; have hcz59_7 : w58.cell? ⟨gb468, 7, none⟩ = some (.int .i64 t459) := (blk_cell BK468.out 7).trans rfl; have hcz59_8 : w58.cell? ⟨gb468, 8, none⟩ = some (.int .i64 t460) := (blk_cell BK468.out 8).trans rfl; have hcz59_9 : w58.cell? ⟨gb468, 9, none⟩ = some (.int .i64 t461) := (blk_cell BK468.out 9).trans rfl; have hcz59_10 : w58.cell? ⟨gb468, 10, none⟩ = some (.string t462) := (blk_cell BK468.out 10).trans rfl; have hcz59_11 : w58.cell? ⟨gb468, 11, none⟩ = some (.int .i64 t463) := (blk_cell BK468.out 11).trans rfl; have hcz59_12 : w58.cell? ⟨gb468, 12, none⟩ = some (.slice Ao33 t464.length co33) := (blk_cell BK468.out 12).trans rfl; have hfz59_0 := blk_frozen BK468.out 0; have hfz59_1 := blk_frozen BK468.out 1; have hfz59_2 := blk_frozen BK468.out 2; have hfz59_3 := blk_frozen BK468.out 3; have hfz59_4 := blk_frozen BK468.out 4; have hfz59_5 := blk_frozen BK468.out 5; have hfz59_6 := blk_frozen BK468.out 6; have hfz59_7 := blk_frozen BK468.out 7; have hfz59_8 := blk_frozen BK468.out 8; have hfz59_9 := blk_frozen BK468.out 9; have hfz59_10 := blk_frozen BK468.out 10; have hfz59_11 := blk_frozen BK468.out 11; have hfz59_12 := blk_frozen BK468.out 12) | (go_at_call 11; (with_reducible refine (ballot_Cmp.calls k2 t455 t456 t453 t454 t471 _ A50.out).mono ?_); rintro e w60 ⟨rfl, hb⟩; have n0_ := Aside0.mk (Kd.R_below (by (with_reducible repeat (first | apply Kd.R_alloc | apply Kd.R_drewN | apply Kd.R_drew)); exact HO_449012.out) hb); have n1_ := Aside0.mk (Kd.R_below (by (with_reducible repeat (first | apply Kd.R_alloc | apply Kd.R_drewN | apply Kd.R_drew)); exact HO466.out) hb); have n2_ := Aside0.mk (blk_below (g := gb448) (by (with_reducible repeat (first | refine blk_drewN ?_ _ | refine blk_drew ?_ | refine blk_alloc ?_ _)); exact BK448.out) hb); have n3_ := Aside0.mk (blk_below (g := gb468) (by (with_reducible repeat (first | refine blk_drewN ?_ _ | refine blk_drew ?_ | refine blk_alloc ?_ _)); exact BK468.out) hb); have n4_ := Aside0.mk (below_step (by repeat (first | (with_reducible first | exact HB.out | apply below_alloc | apply pw_below_drewN | apply below_drew1 | refine below_set ?_ GE448.out | refine below_set ?_ GE468.out) | exact HB.out)) hb); clear HO_449012; clear HO466; clear BK448; clear BK468; clear HB; have HO_449012 := n0_; have HO466 := n1_; have BK448 := n2_; have BK468 := n3_; have HB := n4_; clear n0_ n1_ n2_ n3_ n4_; (try clear hb); (try clear hb2); (try clear hk); (try clear hi)))
                          go_meet
                          case rel => exact ⟨_, (true), (by first | rfl | (simp; done) | (simp [*]; done)), H', ⟨by have := HJ2.out; have := HK2.out; first | omega | exact Nat.le_refl _⟩, ⟨by (with_reducible repeat (first | apply Kd.R_alloc | apply Kd.R_drewN | apply Kd.R_drew)); exact HO_449012.out⟩, ⟨by (with_reducible repeat (first | apply Kd.R_alloc | apply Kd.R_drewN | apply Kd.R_drew)); exact HO466.out⟩, ⟨by (with_reducible repeat (first | refine blk_drewN ?_ _ | refine blk_drew ?_ | refine blk_alloc ?_ _)); exact BK448.out⟩, ⟨by (with_reducible repeat (first | refine blk_drewN ?_ _ | refine blk_drew ?_ | refine blk_alloc ?_ _)); exact BK468.out⟩, ⟨by repeat (first | (with_reducible first | exact HB.out | apply below_alloc | apply pw_below_drewN | apply below_drew1 | refine below_set ?_ GE448.out | refine below_set ?_ GE468.out) | exact HB.out)⟩⟩
                        · rw [if_neg c51] at H
                          have c51b0 : decide (0 < t471) = false := decide_eq_false c51
                          clear c51
                          by_cases c61 : t452 < x449000_2
                          · rw [if_pos c61] at H
                            have c61b0 : decide (t452 < x449000_2) = true := decide_eq_true c61
                            clear c61
                            replace H := Option.bind_eq_some_iff.mp H
                            obtain ⟨t472, A620, H⟩ := H
                            replace H : (colloquylaw09_InstanceRises.j2 k2 l0 x5_2 (decide (t472 ≤ 0)) x449000_2 x449001_2 x449002_2 x449003_2 x449004_2 x449005_2 x449006_2 x449007_2 x449008_2 x449009_2 x449010_2 x449011_2 x449012_2 t452 t453 t454 t455 t456 t457 t458 t459 t460 t461 t462 t463 t464) = some r := H
                            have A62 := Aside0.mk A620
                            clear A620
                            have H' := Aside0.mk H
                            clear H
                            have hnb63 := NB468_448.out
                            have hnc63 := NB448_468.out
                            have hcz64_0 : w20.cell? ⟨gb468, 0, none⟩ = some (.int .i64 0) := (blk_cell BK468.out 0).trans rfl
                            have hcz64_1 : w20.cell? ⟨gb468, 1, none⟩ = some (.int .i64 0) := (blk_cell BK468.out 1).trans rfl
                            have hcz64_2 : w20.cell? ⟨gb468, 2, none⟩ = some (.int .i64 0) := (blk_cell BK468.out 2).trans rfl
                            have hcz64_3 : w20.cell? ⟨gb468, 3, none⟩ = some (.int .i64 0) := (blk_cell BK468.out 3).trans rfl
                            have hcz64_4 : w20.cell? ⟨gb468, 4, none⟩ = some (.int .i64 0) := (blk_cell BK468.out 4).trans rfl
                            have hcz64_5 : w20.cell? ⟨gb468, 5, none⟩ = some (.int .i64 0) := (blk_cell BK468.out 5).trans rfl
                            have hcz64_6 : w20.cell? ⟨gb468, 6, none⟩ = some (.int .i64 0) := (blk_cell BK468.out 6).trans rfl
                            have hcz64_7 : w20.cell? ⟨gb468, 7, none⟩ = some (.int .i64 0) := (blk_cell BK468.out 7).trans rfl
                            have hcz64_8 : w20.cell? ⟨gb468, 8, none⟩ = some (.int .i64 0) := (blk_cell BK468.out 8).trans rfl
                            have hcz64_9 : w20.cell? ⟨gb468, 9, none⟩ = some (.int .i64 0) := (blk_cell BK468.out 9).trans rfl
                            have hcz64_10 : w20.cell? ⟨gb468, 10, none⟩ = some (.string (⟨#[]⟩ : ByteArray)) := (blk_cell BK468.out 10).trans rfl
                            have hcz64_11 : w20.cell? ⟨gb468, 11, none⟩ = some (.int .i64 0) := (blk_cell BK468.out 11).trans rfl
                            have hcz64_12 : w20.cell? ⟨gb468, 12, none⟩ = some (.slice none 0 0) := (blk_cell BK468.out 12).trans rfl
                            have hfz64_0 := blk_frozen BK468.out 0
                            have hfz64_1 := blk_frozen BK468.out 1
                            have hfz64_2 := blk_frozen BK468.out 2
                            have hfz64_3 := blk_frozen BK468.out 3
                            have hfz64_4 := blk_frozen BK468.out 4
                            have hfz64_5 := blk_frozen BK468.out 5
                            have hfz64_6 := blk_frozen BK468.out 6
                            have hfz64_7 := blk_frozen BK468.out 7
                            have hfz64_8 := blk_frozen BK468.out 8
                            have hfz64_9 := blk_frozen BK468.out 9
                            have hfz64_10 := blk_frozen BK468.out 10
                            have hfz64_11 := blk_frozen BK468.out 11
                            have hfz64_12 := blk_frozen BK468.out 12
                            have hcz65_0 : w20.cell? ⟨gb448, 0, none⟩ = some (.int .i64 x449000_2) := (blk_cell BK448.out 0).trans rfl
                            have hcz65_1 : w20.cell? ⟨gb448, 1, none⟩ = some (.int .i64 x449001_2) := (blk_cell BK448.out 1).trans rfl
                            have hcz65_2 : w20.cell? ⟨gb448, 2, none⟩ = some (.int .i64 x449002_2) := (blk_cell BK448.out 2).trans rfl
                            have hcz65_3 : w20.cell? ⟨gb448, 3, none⟩ = some (.int .i64 x449003_2) := (blk_cell BK448.out 3).trans rfl
                            have hcz65_4 : w20.cell? ⟨gb448, 4, none⟩ = some (.int .i64 x449004_2) := (blk_cell BK448.out 4).trans rfl
                            have hcz65_5 : w20.cell? ⟨gb448, 5, none⟩ = some (.int .i64 x449005_2) := (blk_cell BK448.out 5).trans rfl
                            have hcz65_6 : w20.cell? ⟨gb448, 6, none⟩ = some (.int .i64 x449006_2) := (blk_cell BK448.out 6).trans rfl
                            have hcz65_7 : w20.cell? ⟨gb448, 7, none⟩ = some (.int .i64 x449007_2) := (blk_cell BK448.out 7).trans rfl
                            have hcz65_8 : w20.cell? ⟨gb448, 8, none⟩ = some (.int .i64 x449008_2) := (blk_cell BK448.out 8).trans rfl
                            have hcz65_9 : w20.cell? ⟨gb448, 9, none⟩ = some (.int .i64 x449009_2) := (blk_cell BK448.out 9).trans rfl
                            have hcz65_10 : w20.cell? ⟨gb448, 10, none⟩ = some (.string x449010_2) := (blk_cell BK448.out 10).trans rfl
                            have hcz65_11 : w20.cell? ⟨gb448, 11, none⟩ = some (.int .i64 x449011_2) := (blk_cell BK448.out 11).trans rfl
                            have hcz65_12 : w20.cell? ⟨gb448, 12, none⟩ = some (.slice Ao16 x449012_2.length co16) := (blk_cell BK448.out 12).trans rfl
                            have hfz65_0 := blk_frozen BK448.out 0
                            have hfz65_1 := blk_frozen BK448.out 1
                            have hfz65_2 := blk_frozen BK448.out 2
                            have hfz65_3 := blk_frozen BK448.out 3
                            have hfz65_4 := blk_frozen BK448.out 4
                            have hfz65_5 := blk_frozen BK448.out 5
                            have hfz65_6 := blk_frozen BK448.out 6
                            have hfz65_7 := blk_frozen BK448.out 7
                            have hfz65_8 := blk_frozen BK448.out 8
                            have hfz65_9 := blk_frozen BK448.out 9
                            have hfz65_10 := blk_frozen BK448.out 10
                            have hfz65_11 := blk_frozen BK448.out 11
                            have hfz65_12 := blk_frozen BK448.out 12
                            go_wp2_with (first | ((with_reducible refine gate_callee (f := 11) rfl ?_); refine goesL_ (some 46) rfl rfl Try.func11 (by kernel_rfl) rfl #[.agg #[.int .i64 t453, .int .i64 t454], .agg #[.int .i64 x449001_2, .int .i64 x449002_2]] rfl (by (try simp only [List.map_toArray, List.map_cons, List.map_nil]); first | done | rfl | (simp only [List.length_drop, List.length_take]; rfl)) ?_; (with_reducible refine (ballot_Cmp.calls k2 t453 t454 x449001_2 x449002_2 t469 _ A35.out).mono ?_); rintro e w66 ⟨rfl, hb⟩; refine ⟨_, rfl, ?_⟩; have n0_ := Aside0.mk (Kd.R_below (by (with_reducible repeat (first | apply Kd.R_alloc | apply Kd.R_drewN | apply Kd.R_drew)); exact (Kd.R_mono (Kd.R_far13 (g := gb468) (Kd.R_types HO_449012.out BK468.out (by decide)) (fun _ hk => hk.2)) (fun _ h_ => h_.1))) hb); have n1_ := Aside0.mk (Kd.R_below (by (with_reducible repeat (first | apply Kd.R_alloc | apply Kd.R_drewN | apply Kd.R_drew)); exact (Kd.R_mono (Kd.R_far13 (g := gb468) (Kd.R_types HO466.out BK468.out (by decide)) (fun _ hk => hk.2)) (fun _ h_ => h_.1))) hb); have n2_ := Aside0.mk (blk_below (g := gb448) (o := .cells #[.int .i64 x449000_2, .int .i64 x449001_2, .int .i64 x449002_2, .int .i64 x449003_2, .int .i64 x449004_2, .int .i64 x449005_2, .int .i64 x449006_2, .int .i64 x449007_2, .int .i64 x449008_2, .int .i64 x449009_2, .string x449010_2, .int .i64 x449011_2, .slice Ao16 x449012_2.length co16] 32 (0, 0)) (by (with_reducible repeat (first | refine blk_drewN ?_ _ | refine blk_drew ?_ | refine blk_alloc ?_ _)); (iterate 13 (refine blk_far ?_ NB448_468.out _)); (with_reducible repeat (first | refine blk_drewN ?_ _ | refine blk_drew ?_ | refine blk_alloc ?_ _)); exact BK448.out) hb); have n3_ := Aside0.mk (blk_below (g := gb468) (o := .cells #[.int .i64 t452, .int .i64 t453, .int .i64 t454, .int .i64 t455, .int .i64 t456, .int .i64 t457, .int .i64 t458, .int .i64 t459, .int .i64 t460, .int .i64 t461, .string t462, .int .i64 t463, .slice Ao33 t464.length co33] 32 (0, 0)) (by (with_reducible repeat (first | refine blk_drewN ?_ _ | refine blk_drew ?_ | refine blk_alloc ?_ _)); refine blk_put13 (cs := #[.int .i64 0, .int .i64 0, .int .i64 0, .int .i64 0, .int .i64 0, .int .i64 0, .int .i64 0, .int .i64 0, .int .i64 0, .int .i64 0, .string (⟨#[]⟩ : ByteArray), .int .i64 0, .slice none 0 0]) ?_ rfl; (with_reducible repeat (first | refine blk_drewN ?_ _ | refine blk_drew ?_ | refine blk_alloc ?_ _)); exact BK468.out) hb); have n4_ := Aside0.mk (below_step (by repeat (first | (with_reducible first | exact HB.out | apply below_alloc | apply pw_below_drewN | apply below_drew1 | refine below_set ?_ GE448.out | refine below_set ?_ GE468.out) | exact HB.out)) hb); clear HO_449012; clear HO466; clear BK448; clear BK468; clear HB; have HO_449012 := n0_; have HO466 := n1_; have BK448 := n2_; have BK468 := n3_; have HB := n4_; clear n0_ n1_ n2_ n3_ n4_; (try clear hb); (try clear hb2); (try clear hk); (try clear hi); have hcz67_0 : w66.cell? ⟨gb468, 0, none⟩ = some (.int .i64 t452) := (blk_cell BK468.out 0).trans rfl; have hcz67_1 : w66.cell? ⟨gb468, 1, none⟩ = some (.int .i64 t453) := (blk_cell BK468.out 1).trans rfl; have hcz67_2 : w66.cell? ⟨gb468, 2, none⟩ = some (.int .i64 t454) := (blk_cell BK468.out 2).trans rfl; have hcz67_3 : w66.cell? ⟨gb468, 3, none⟩ = some (.int .i64 t455) := (blk_cell BK468.out 3).trans rfl; have hcz67_4 : w66.cell? ⟨gb468, 4, none⟩ = some (.int .i64 t456) := (blk_cell BK468.out 4).trans rfl; have hcz67_5 : w66.cell? ⟨gb468, 5, none⟩ = some (.int .i64 t457) := (blk_cell BK468.out 5).trans rfl; have hcz67_6 : w66.cell? ⟨gb468, 6, none⟩ = some (.int .i64 t458) := (blk_cell BK468.out 6).trans rfl; have hcz67_7 : w66.cell? ⟨gb468, 7, none⟩ = some (.int .i64 t459) := (blk_cell BK468.out 7).trans rfl; have hcz67_8 : w66.cell? ⟨gb468, 8, none⟩ = some (.int .i64 t460) := (blk_cell BK468.out 8).trans rfl; have hcz67_9 : w66.cell? ⟨gb468, 9, none⟩ = some (.int .i64 t461) := (blk_cell BK468.out 9).trans rfl; have hcz67_10 : w66.cell? ⟨gb468, 10, none⟩ = some (.string t462) := (blk_cell BK468.out 10).trans rfl; have hcz67_11 : w66.cell? ⟨gb468, 11, none⟩ = some (.int .i64 t463) := (blk_cell BK468.out 11).trans rfl; have hcz67_12 : w66.cell? ⟨gb468, 12, none⟩ = some (.slice Ao33 t464.length co33) := (blk_cell BK468.out 12).trans rfl; have hfz67_0 := blk_frozen BK468.out 0; have hfz67_1 := blk_frozen BK468.out 1; have hfz67_2 := blk_frozen BK468.out 2; have hfz67_3 := blk_frozen BK468.out 3; have hfz67_4 := blk_frozen BK468.out 4; have hfz67_5 := blk_frozen BK468.out 5; have hfz67_6 := blk_frozen BK468.out 6; have hfz67_7 := blk_frozen BK468.out 7; have hfz67_8 := blk_frozen BK468.out 8; have hfz67_9 := blk_frozen BK468.out 9; have hfz67_10 := blk_frozen BK468.out 10; have hfz67_11 := blk_frozen BK468.out 11; have hfz67_12 := blk_frozen BK468.out 12; have hcz68_0 : w66.cell? ⟨gb448, 0, none⟩ = some (.int .i64 x449000_2) := (blk_cell BK448.out 0).trans rfl; have hcz68_1 : w66.cell? ⟨gb448, 1, none⟩ = some (.int .i64 x449001_2) := (blk_cell BK448.out 1).trans rfl; have hcz68_2 : w66.cell? ⟨gb448, 2, none⟩ = some (.int .i64 x449002_2) := (blk_cell BK448.out 2).trans rfl; have hcz68_3 : w66.cell? ⟨gb448, 3, none⟩ = some (.int .i64 x449003_2) := (blk_cell BK448.out 3).trans rfl; have hcz68_4 : w66.cell? ⟨gb448, 4, none⟩ = some (.int .i64 x449004_2) := (blk_cell BK448.out 4).trans rfl; have hcz68_5 : w66.cell? ⟨gb448, 5, none⟩ = some (.int .i64 x449005_2) := (blk_cell BK448.out 5).trans rfl; have hcz68_6 : w66.cell? ⟨gb448, 6, none⟩ = some (.int .i64 x449006_2) := (blk_cell BK448.out 6).trans rfl; have hcz68_7 : w66.cell? ⟨gb448, 7, none⟩ = some (.int .i64 x449007_2) := (blk_cell BK448.out 7).trans rfl; have hcz68_8 : w66.cell? ⟨gb448, 8, none⟩ = some (.int .i64 x449008_2) := (blk_cell BK448.out 8).trans rfl; have hcz68_9 : w66.cell? ⟨gb448, 9, none⟩ = some (.int .i64 x449009_2) := (blk_cell BK448.out 9).trans rfl; have hcz68_10 : w66.cell? ⟨gb448, 10, none⟩ = some (.string x449010_2) := (blk_cell BK448.out 10).trans rfl; have hcz68_11 : w66.cell? ⟨gb448, 11, none⟩ = some (.int .i64 x449011_2) := (blk_cell BK448.out 11).trans rfl; have hcz68_12 : w66.cell? ⟨gb448, 12, none⟩ = some (.slice Ao16 x449012_2.length co16) := (blk_cell BK448.out 12).trans rfl; have hfz68_0 := blk_frozen BK448.out 0; have hfz68_1 := blk_frozen BK448.out 1; have hfz68_2 := blk_frozen BK448.out 2; have hfz68_3 := blk_frozen BK448.out 3; have hfz68_4 := blk_frozen BK448.out 4; have hfz68_5 := blk_frozen BK448.out 5; have hfz68_6 := blk_frozen BK448.out 6; have hfz68_7 := blk_frozen BK448.out 7; have hfz68_8 := blk_frozen BK448.out 8; have hfz68_9 := blk_frozen BK448.out 9; have hfz68_10 := blk_frozen BK448.out 10; have hfz68_11 := blk_frozen BK448.out 11; have hfz68_12 := blk_frozen BK448.out 12) | (go_at_call 11; (with_reducible refine (ballot_Cmp.calls k2 t455 t456 x449003_2 x449004_2 t470 _ A41.out).mono ?_); rintro e w69 ⟨rfl, hb⟩; have n0_ := Aside0.mk (Kd.R_below (by (with_reducible repeat (first | apply Kd.R_alloc | apply Kd.R_drewN | apply Kd.R_drew)); exact HO_449012.out) hb); have n1_ := Aside0.mk (Kd.R_below (by (with_reducible repeat (first | apply Kd.R_alloc | apply Kd.R_drewN | apply Kd.R_drew)); exact HO466.out) hb); have n2_ := Aside0.mk (blk_below (g := gb448) (by (with_reducible repeat (first | refine blk_drewN ?_ _ | refine blk_drew ?_ | refine blk_alloc ?_ _)); exact BK448.out) hb); have n3_ := Aside0.mk (blk_below (g := gb468) (by (with_reducible repeat (first | refine blk_drewN ?_ _ | refine blk_drew ?_ | refine blk_alloc ?_ _)); exact BK468.out) hb); have n4_ := Aside0.mk (below_step (by repeat (first | (with_reducible first | exact HB.out | apply below_alloc | apply pw_below_drewN | apply below_drew1 | refine below_set ?_ GE448.out | refine below_set ?_ GE468.out) | exact HB.out)) hb); clear HO_449012; clear HO466; clear BK448; clear BK468; clear HB; have HO_449012 := n0_; have HO466 := n1_; have BK448 := n2_; have BK468 := n3_; have HB := n4_; clear n0_ n1_ n2_ n3_ n4_; (try clear hb); (try clear hb2); (try clear hk); (try clear hi); have hcz70_0 : w69.cell? ⟨gb468, 0, none⟩ = some (.int .i64 t452) := (blk_cell BK468.out 0).trans rfl; have hcz70_1 : w69.cell? ⟨gb468, 1, none⟩ = some (.int .i64 t453) := (blk_cell BK468.out 1).trans rfl; have hcz70_2 : w69.cell? ⟨gb468, 2, none⟩ = some (.int .i64 t454) := (blk_cell BK468.out 2).trans rfl; have hcz70_3 : w69.cell? ⟨gb468, 3, none⟩ = some (.int .i64 t455) := (blk_cell BK468.out 3).trans rfl; have hcz70_4 : w69.cell? ⟨gb468, 4, none⟩ = some (.int .i64 t456) := (blk_cell BK468.out 4).trans rfl; have hcz70_5 : w69.cell? ⟨gb468, 5, none⟩ = some (.int .i64 t457) := (blk_cell BK468.out 5).trans rfl; have hcz70_6 : w69.cell? ⟨gb468, 6, none⟩ = some (.int .i64 t458) := (blk_cell BK468.out 6).trans rfl; have hcz70_7 : w69.cell? ⟨gb468, 7, none⟩ = some (.int .i64 t459) := (blk_cell BK468.out 7).trans rfl; have hcz70_8 : w69.cell? ⟨gb468, 8, none⟩ = some (.int .i64 t460) := (blk_cell BK468.out 8).trans rfl; have hcz70_9 : w69.cell? ⟨gb468, 9, none⟩ = some (.int .i64 t461) := (blk_cell BK468.out 9).trans rfl; have hcz70_10 : w69.cell? ⟨gb468, 10, none⟩ = some (.string t462) := (blk_cell BK468.out 10).trans rfl; have hcz70_11 : w69.cell? ⟨gb468, 11, none⟩ = some (.int .i64 t463) := (blk_cell BK468.out 11).trans rfl; have hcz70_12 : w69.cell? ⟨gb468, 12, none⟩ = some (.slice Ao33 t464.length co33) := (blk_cell BK468.out 12).trans rfl; have hfz70_0 := blk_frozen BK468.out 0; have hfz70_1 := blk_frozen BK468.out 1; have hfz70_2 := blk_frozen BK468.out 2; have hfz70_3 := blk_frozen BK468.out 3; have hfz70_4 := blk_frozen BK468.out 4; have hfz70_5 := blk_frozen BK468.out 5; have hfz70_6 := blk_frozen BK468.out 6; have hfz70_7 := blk_frozen BK468.out 7; have hfz70_8 := blk_frozen BK468.out 8; have hfz70_9 := blk_frozen BK468.out 9; have hfz70_10 := blk_frozen BK468.out 10; have hfz70_11 := blk_frozen BK468.out 11; have hfz70_12 := blk_frozen BK468.out 12) | (go_at_call 11; (with_reducible refine (ballot_Cmp.calls k2 t455 t456 t453 t454 t471 _ A50.out).mono ?_); rintro e w71 ⟨rfl, hb⟩; have n0_ := Aside0.mk (Kd.R_below (by (with_reducible repeat (first | apply Kd.R_alloc | apply Kd.R_drewN | apply Kd.R_drew)); exact HO_449012.out) hb); have n1_ := Aside0.mk (Kd.R_below (by (with_reducible repeat (first | apply Kd.R_alloc | apply Kd.R_drewN | apply Kd.R_drew)); exact HO466.out) hb); have n2_ := Aside0.mk (blk_below (g := gb448) (by (with_reducible repeat (first | refine blk_drewN ?_ _ | refine blk_drew ?_ | refine blk_alloc ?_ _)); exact BK448.out) hb); have n3_ := Aside0.mk (blk_below (g := gb468) (by (with_reducible repeat (first | refine blk_drewN ?_ _ | refine blk_drew ?_ | refine blk_alloc ?_ _)); exact BK468.out) hb); have n4_ := Aside0.mk (below_step (by repeat (first | (with_reducible first | exact HB.out | apply below_alloc | apply pw_below_drewN | apply below_drew1 | refine below_set ?_ GE448.out | refine below_set ?_ GE468.out) | exact HB.out)) hb); clear HO_449012; clear HO466; clear BK448; clear BK468; clear HB; have HO_449012 := n0_; have HO466 := n1_; have BK448 := n2_; have BK468 := n3_; have HB := n4_; clear n0_ n1_ n2_ n3_ n4_; (try clear hb); (try clear hb2); (try clear hk); (try clear hi); have hcz72_0 : w71.cell? ⟨gb468, 0, none⟩ = some (.int .i64 t452) := (blk_cell BK468.out 0).trans rfl; have hcz72_1 : w71.cell? ⟨gb468, 1, none⟩ = some (.int .i64 t453) := (blk_cell BK468.out 1).trans rfl; have hcz72_2 : w71.cell? ⟨gb468, 2, none⟩ = some (.int .i64 t454) := (blk_cell BK468.out 2).trans rfl; have hcz72_3 : w71.cell? ⟨gb468, 3, none⟩ = some (.int .i64 t455) := (blk_cell BK468.out 3).trans rfl; have hcz72_4 : w71.cell? ⟨gb468, 4, none⟩ = some (.int .i64 t456) := (blk_cell BK468.out 4).trans rfl; have hcz72_5 : w71.cell? ⟨gb468, 5, none⟩ = some (.int .i64 t457) := (blk_cell BK468.out 5).trans rfl; have hcz72_6 : w71.cell? ⟨gb468, 6, none⟩ = some (.int .i64 t458) := (blk_cell BK468.out 6).trans rfl; have hcz72_7 : w71.cell? ⟨gb468, 7, none⟩ = some (.int .i64 t459) := (blk_cell BK468.out 7).trans rfl; have hcz72_8 : w71.cell? ⟨gb468, 8, none⟩ = some (.int .i64 t460) := (blk_cell BK468.out 8).trans rfl; have hcz72_9 : w71.cell? ⟨gb468, 9, none⟩ = some (.int .i64 t461) := (blk_cell BK468.out 9).trans rfl; have hcz72_10 : w71.cell? ⟨gb468, 10, none⟩ = some (.string t462) := (blk_cell BK468.out 10).trans rfl; have hcz72_11 : w71.cell? ⟨gb468, 11, none⟩ = some (.int .i64 t463) := (blk_cell BK468.out 11).trans rfl; have hcz72_12 : w71.cell? ⟨gb468, 12, none⟩ = some (.slice Ao33 t464.length co33) := (blk_cell BK468.out 12).trans rfl; have hfz72_0 := blk_frozen BK468.out 0; have hfz72_1 := blk_frozen BK468.out 1; have hfz72_2 := blk_frozen BK468.out 2; have hfz72_3 := blk_frozen BK468.out 3; have hfz72_4 := blk_frozen BK468.out 4; have hfz72_5 := blk_frozen BK468.out 5; have hfz72_6 := blk_frozen BK468.out 6; have hfz72_7 := blk_frozen BK468.out 7; have hfz72_8 := blk_frozen BK468.out 8; have hfz72_9 := blk_frozen BK468.out 9; have hfz72_10 := blk_frozen BK468.out 10; have hfz72_11 := blk_frozen BK468.out 11; have hfz72_12 := blk_frozen BK468.out 12; have hcz73_0 : w71.cell? ⟨gb448, 0, none⟩ = some (.int .i64 x449000_2) := (blk_cell BK448.out 0).trans rfl; have hcz73_1 : w71.cell? ⟨gb448, 1, none⟩ = some (.int .i64 x449001_2) := (blk_cell BK448.out 1).trans rfl; have hcz73_2 : w71.cell? ⟨gb448, 2, none⟩ = some (.int .i64 x449002_2) := (blk_cell BK448.out 2).trans rfl; have hcz73_3 : w71.cell? ⟨gb448, 3, none⟩ = some (.int .i64 x449003_2) := (blk_cell BK448.out 3).trans rfl; have hcz73_4 : w71.cell? ⟨gb448, 4, none⟩ = some (.int .i64 x449004_2) := (blk_cell BK448.out 4).trans rfl; have hcz73_5 : w71.cell? ⟨gb448, 5, none⟩ = some (.int .i64 x449005_2) := (blk_cell BK448.out 5).trans rfl; have hcz73_6 : w71.cell? ⟨gb448, 6, none⟩ = some (.int .i64 x449006_2) := (blk_cell BK448.out 6).trans rfl; have hcz73_7 : w71.cell? ⟨gb448, 7, none⟩ = some (.int .i64 x449007_2) := (blk_cell BK448.out 7).trans rfl; have hcz73_8 : w71.cell? ⟨gb448, 8, none⟩ = some (.int .i64 x449008_2) := (blk_cell BK448.out 8).trans rfl; have hcz73_9 : w71.cell? ⟨gb448, 9, none⟩ = some (.int .i64 x449009_2) := (blk_cell BK448.out 9).trans rfl; have hcz73_10 : w71.cell? ⟨gb448, 10, none⟩ = some (.string x449010_2) := (blk_cell BK448.out 10).trans rfl; have hcz73_11 : w71.cell? ⟨gb448, 11, none⟩ = some (.int .i64 x449011_2) := (blk_cell BK448.out 11).trans rfl; have hcz73_12 : w71.cell? ⟨gb448, 12, none⟩ = some (.slice Ao16 x449012_2.length co16) := (blk_cell BK448.out 12).trans rfl; have hfz73_0 := blk_frozen BK448.out 0; have hfz73_1 := blk_frozen BK448.out 1; have hfz73_2 := blk_frozen BK448.out 2; have hfz73_3 := blk_frozen BK448.out 3; have hfz73_4 := blk_frozen BK448.out 4; have hfz73_5 := blk_frozen BK448.out 5; have hfz73_6 := blk_frozen BK448.out 6; have hfz73_7 := blk_frozen BK448.out 7; have hfz73_8 := blk_frozen BK448.out 8; have hfz73_9 := blk_frozen BK448.out 9; have hfz73_10 := blk_frozen BK448.out 10; have hfz73_11 := blk_frozen BK448.out 11; have hfz73_12 := blk_frozen BK448.out 12) | (go_at_call 11; (with_reducible refine (ballot_Cmp.calls k2 t455 t456 x449003_2 x449004_2 t472 _ A62.out).mono ?_); rintro e w74 ⟨rfl, hb⟩; have n0_ := Aside0.mk (Kd.R_below (by (with_reducible repeat (first | apply Kd.R_alloc | apply Kd.R_drewN | apply Kd.R_drew)); exact HO_449012.out) hb); have n1_ := Aside0.mk (Kd.R_below (by (with_reducible repeat (first | apply Kd.R_alloc | apply Kd.R_drewN | apply Kd.R_drew)); exact HO466.out) hb); have n2_ := Aside0.mk (blk_below (g := gb448) (by (with_reducible repeat (first | refine blk_drewN ?_ _ | refine blk_drew ?_ | refine blk_alloc ?_ _)); exact BK448.out) hb); have n3_ := Aside0.mk (blk_below (g := gb468) (by (with_reducible repeat (first | refine blk_drewN ?_ _ | refine blk_drew ?_ | refine blk_alloc ?_ _)); exact BK468.out) hb); have n4_ := Aside0.mk (below_step (by repeat (first | (with_reducible first | exact HB.out | apply below_alloc | apply pw_below_drewN | apply below_drew1 | refine below_set ?_ GE448.out | refine below_set ?_ GE468.out) | exact HB.out)) hb); clear HO_449012; clear HO466; clear BK448; clear BK468; clear HB; have HO_449012 := n0_; have HO466 := n1_; have BK448 := n2_; have BK468 := n3_; have HB := n4_; clear n0_ n1_ n2_ n3_ n4_; (try clear hb); (try clear hb2); (try clear hk); (try clear hi)))
                            go_meet
                            case rel => exact ⟨_, (decide (t472 ≤ 0)), (by first | rfl | (simp; done) | (simp [*]; done) | (simp; have e_ : ∀ {x : Option Int} {a b : Int}, Aside0 (x = some a) → Aside0 (x = some b) → (a ≤ 0 ↔ b ≤ 0) := fun h h2 => (by rw [Option.some.inj (h.out.symm.trans h2.out)]); exact e_ (by assumption) (by assumption))), H', ⟨by have := HJ2.out; have := HK2.out; first | omega | exact Nat.le_refl _⟩, ⟨by (with_reducible repeat (first | apply Kd.R_alloc | apply Kd.R_drewN | apply Kd.R_drew)); exact HO_449012.out⟩, ⟨by (with_reducible repeat (first | apply Kd.R_alloc | apply Kd.R_drewN | apply Kd.R_drew)); exact HO466.out⟩, ⟨by (with_reducible repeat (first | refine blk_drewN ?_ _ | refine blk_drew ?_ | refine blk_alloc ?_ _)); exact BK448.out⟩, ⟨by (with_reducible repeat (first | refine blk_drewN ?_ _ | refine blk_drew ?_ | refine blk_alloc ?_ _)); exact BK468.out⟩, ⟨by repeat (first | (with_reducible first | exact HB.out | apply below_alloc | apply pw_below_drewN | apply below_drew1 | refine below_set ?_ GE448.out | refine below_set ?_ GE468.out) | exact HB.out)⟩⟩
                          · rw [if_neg c61] at H
                            have c61b0 : decide (t452 < x449000_2) = false := decide_eq_false c61
                            clear c61
                            have H' := Aside0.mk H
                            clear H
                            have hnb75 := NB468_448.out
                            have hnc75 := NB448_468.out
                            have hcz76_0 : w20.cell? ⟨gb468, 0, none⟩ = some (.int .i64 0) := (blk_cell BK468.out 0).trans rfl
                            have hcz76_1 : w20.cell? ⟨gb468, 1, none⟩ = some (.int .i64 0) := (blk_cell BK468.out 1).trans rfl
                            have hcz76_2 : w20.cell? ⟨gb468, 2, none⟩ = some (.int .i64 0) := (blk_cell BK468.out 2).trans rfl
                            have hcz76_3 : w20.cell? ⟨gb468, 3, none⟩ = some (.int .i64 0) := (blk_cell BK468.out 3).trans rfl
                            have hcz76_4 : w20.cell? ⟨gb468, 4, none⟩ = some (.int .i64 0) := (blk_cell BK468.out 4).trans rfl
                            have hcz76_5 : w20.cell? ⟨gb468, 5, none⟩ = some (.int .i64 0) := (blk_cell BK468.out 5).trans rfl
                            have hcz76_6 : w20.cell? ⟨gb468, 6, none⟩ = some (.int .i64 0) := (blk_cell BK468.out 6).trans rfl
                            have hcz76_7 : w20.cell? ⟨gb468, 7, none⟩ = some (.int .i64 0) := (blk_cell BK468.out 7).trans rfl
                            have hcz76_8 : w20.cell? ⟨gb468, 8, none⟩ = some (.int .i64 0) := (blk_cell BK468.out 8).trans rfl
                            have hcz76_9 : w20.cell? ⟨gb468, 9, none⟩ = some (.int .i64 0) := (blk_cell BK468.out 9).trans rfl
                            have hcz76_10 : w20.cell? ⟨gb468, 10, none⟩ = some (.string (⟨#[]⟩ : ByteArray)) := (blk_cell BK468.out 10).trans rfl
                            have hcz76_11 : w20.cell? ⟨gb468, 11, none⟩ = some (.int .i64 0) := (blk_cell BK468.out 11).trans rfl
                            have hcz76_12 : w20.cell? ⟨gb468, 12, none⟩ = some (.slice none 0 0) := (blk_cell BK468.out 12).trans rfl
                            have hfz76_0 := blk_frozen BK468.out 0
                            have hfz76_1 := blk_frozen BK468.out 1
                            have hfz76_2 := blk_frozen BK468.out 2
                            have hfz76_3 := blk_frozen BK468.out 3
                            have hfz76_4 := blk_frozen BK468.out 4
                            have hfz76_5 := blk_frozen BK468.out 5
                            have hfz76_6 := blk_frozen BK468.out 6
                            have hfz76_7 := blk_frozen BK468.out 7
                            have hfz76_8 := blk_frozen BK468.out 8
                            have hfz76_9 := blk_frozen BK468.out 9
                            have hfz76_10 := blk_frozen BK468.out 10
                            have hfz76_11 := blk_frozen BK468.out 11
                            have hfz76_12 := blk_frozen BK468.out 12
                            have hcz77_0 : w20.cell? ⟨gb448, 0, none⟩ = some (.int .i64 x449000_2) := (blk_cell BK448.out 0).trans rfl
                            have hcz77_1 : w20.cell? ⟨gb448, 1, none⟩ = some (.int .i64 x449001_2) := (blk_cell BK448.out 1).trans rfl
                            have hcz77_2 : w20.cell? ⟨gb448, 2, none⟩ = some (.int .i64 x449002_2) := (blk_cell BK448.out 2).trans rfl
                            have hcz77_3 : w20.cell? ⟨gb448, 3, none⟩ = some (.int .i64 x449003_2) := (blk_cell BK448.out 3).trans rfl
                            have hcz77_4 : w20.cell? ⟨gb448, 4, none⟩ = some (.int .i64 x449004_2) := (blk_cell BK448.out 4).trans rfl
                            have hcz77_5 : w20.cell? ⟨gb448, 5, none⟩ = some (.int .i64 x449005_2) := (blk_cell BK448.out 5).trans rfl
                            have hcz77_6 : w20.cell? ⟨gb448, 6, none⟩ = some (.int .i64 x449006_2) := (blk_cell BK448.out 6).trans rfl
                            have hcz77_7 : w20.cell? ⟨gb448, 7, none⟩ = some (.int .i64 x449007_2) := (blk_cell BK448.out 7).trans rfl
                            have hcz77_8 : w20.cell? ⟨gb448, 8, none⟩ = some (.int .i64 x449008_2) := (blk_cell BK448.out 8).trans rfl
                            have hcz77_9 : w20.cell? ⟨gb448, 9, none⟩ = some (.int .i64 x449009_2) := (blk_cell BK448.out 9).trans rfl
                            have hcz77_10 : w20.cell? ⟨gb448, 10, none⟩ = some (.string x449010_2) := (blk_cell BK448.out 10).trans rfl
                            have hcz77_11 : w20.cell? ⟨gb448, 11, none⟩ = some (.int .i64 x449011_2) := (blk_cell BK448.out 11).trans rfl
                            have hcz77_12 : w20.cell? ⟨gb448, 12, none⟩ = some (.slice Ao16 x449012_2.length co16) := (blk_cell BK448.out 12).trans rfl
                            have hfz77_0 := blk_frozen BK448.out 0
                            have hfz77_1 := blk_frozen BK448.out 1
                            have hfz77_2 := blk_frozen BK448.out 2
                            have hfz77_3 := blk_frozen BK448.out 3
                            have hfz77_4 := blk_frozen BK448.out 4
                            have hfz77_5 := blk_frozen BK448.out 5
                            have hfz77_6 := blk_frozen BK448.out 6
                            have hfz77_7 := blk_frozen BK448.out 7
                            have hfz77_8 := blk_frozen BK448.out 8
                            have hfz77_9 := blk_frozen BK448.out 9
                            have hfz77_10 := blk_frozen BK448.out 10
                            have hfz77_11 := blk_frozen BK448.out 11
                            have hfz77_12 := blk_frozen BK448.out 12
                            go_wp2_with (first | ((with_reducible refine gate_callee (f := 11) rfl ?_); refine goesL_ (some 46) rfl rfl Try.func11 (by kernel_rfl) rfl #[.agg #[.int .i64 t453, .int .i64 t454], .agg #[.int .i64 x449001_2, .int .i64 x449002_2]] rfl (by (try simp only [List.map_toArray, List.map_cons, List.map_nil]); first | done | rfl | (simp only [List.length_drop, List.length_take]; rfl)) ?_; (with_reducible refine (ballot_Cmp.calls k2 t453 t454 x449001_2 x449002_2 t469 _ A35.out).mono ?_); rintro e w78 ⟨rfl, hb⟩; refine ⟨_, rfl, ?_⟩; have n0_ := Aside0.mk (Kd.R_below (by (with_reducible repeat (first | apply Kd.R_alloc | apply Kd.R_drewN | apply Kd.R_drew)); exact (Kd.R_mono (Kd.R_far13 (g := gb468) (Kd.R_types HO_449012.out BK468.out (by decide)) (fun _ hk => hk.2)) (fun _ h_ => h_.1))) hb); have n1_ := Aside0.mk (Kd.R_below (by (with_reducible repeat (first | apply Kd.R_alloc | apply Kd.R_drewN | apply Kd.R_drew)); exact (Kd.R_mono (Kd.R_far13 (g := gb468) (Kd.R_types HO466.out BK468.out (by decide)) (fun _ hk => hk.2)) (fun _ h_ => h_.1))) hb); have n2_ := Aside0.mk (blk_below (g := gb448) (o := .cells #[.int .i64 x449000_2, .int .i64 x449001_2, .int .i64 x449002_2, .int .i64 x449003_2, .int .i64 x449004_2, .int .i64 x449005_2, .int .i64 x449006_2, .int .i64 x449007_2, .int .i64 x449008_2, .int .i64 x449009_2, .string x449010_2, .int .i64 x449011_2, .slice Ao16 x449012_2.length co16] 32 (0, 0)) (by (with_reducible repeat (first | refine blk_drewN ?_ _ | refine blk_drew ?_ | refine blk_alloc ?_ _)); (iterate 13 (refine blk_far ?_ NB448_468.out _)); (with_reducible repeat (first | refine blk_drewN ?_ _ | refine blk_drew ?_ | refine blk_alloc ?_ _)); exact BK448.out) hb); have n3_ := Aside0.mk (blk_below (g := gb468) (o := .cells #[.int .i64 t452, .int .i64 t453, .int .i64 t454, .int .i64 t455, .int .i64 t456, .int .i64 t457, .int .i64 t458, .int .i64 t459, .int .i64 t460, .int .i64 t461, .string t462, .int .i64 t463, .slice Ao33 t464.length co33] 32 (0, 0)) (by (with_reducible repeat (first | refine blk_drewN ?_ _ | refine blk_drew ?_ | refine blk_alloc ?_ _)); refine blk_put13 (cs := #[.int .i64 0, .int .i64 0, .int .i64 0, .int .i64 0, .int .i64 0, .int .i64 0, .int .i64 0, .int .i64 0, .int .i64 0, .int .i64 0, .string (⟨#[]⟩ : ByteArray), .int .i64 0, .slice none 0 0]) ?_ rfl; (with_reducible repeat (first | refine blk_drewN ?_ _ | refine blk_drew ?_ | refine blk_alloc ?_ _)); exact BK468.out) hb); have n4_ := Aside0.mk (below_step (by repeat (first | (with_reducible first | exact HB.out | apply below_alloc | apply pw_below_drewN | apply below_drew1 | refine below_set ?_ GE448.out | refine below_set ?_ GE468.out) | exact HB.out)) hb); clear HO_449012; clear HO466; clear BK448; clear BK468; clear HB; have HO_449012 := n0_; have HO466 := n1_; have BK448 := n2_; have BK468 := n3_; have HB := n4_; clear n0_ n1_ n2_ n3_ n4_; (try clear hb); (try clear hb2); (try clear hk); (try clear hi); have hcz79_0 : w78.cell? ⟨gb468, 0, none⟩ = some (.int .i64 t452) := (blk_cell BK468.out 0).trans rfl; have hcz79_1 : w78.cell? ⟨gb468, 1, none⟩ = some (.int .i64 t453) := (blk_cell BK468.out 1).trans rfl; have hcz79_2 : w78.cell? ⟨gb468, 2, none⟩ = some (.int .i64 t454) := (blk_cell BK468.out 2).trans rfl; have hcz79_3 : w78.cell? ⟨gb468, 3, none⟩ = some (.int .i64 t455) := (blk_cell BK468.out 3).trans rfl; have hcz79_4 : w78.cell? ⟨gb468, 4, none⟩ = some (.int .i64 t456) := (blk_cell BK468.out 4).trans rfl; have hcz79_5 : w78.cell? ⟨gb468, 5, none⟩ = some (.int .i64 t457) := (blk_cell BK468.out 5).trans rfl; have hcz79_6 : w78.cell? ⟨gb468, 6, none⟩ = some (.int .i64 t458) := (blk_cell BK468.out 6).trans rfl; have hcz79_7 : w78.cell? ⟨gb468, 7, none⟩ = some (.int .i64 t459) := (blk_cell BK468.out 7).trans rfl; have hcz79_8 : w78.cell? ⟨gb468, 8, none⟩ = some (.int .i64 t460) := (blk_cell BK468.out 8).trans rfl; have hcz79_9 : w78.cell? ⟨gb468, 9, none⟩ = some (.int .i64 t461) := (blk_cell BK468.out 9).trans rfl; have hcz79_10 : w78.cell? ⟨gb468, 10, none⟩ = some (.string t462) := (blk_cell BK468.out 10).trans rfl; have hcz79_11 : w78.cell? ⟨gb468, 11, none⟩ = some (.int .i64 t463) := (blk_cell BK468.out 11).trans rfl; have hcz79_12 : w78.cell? ⟨gb468, 12, none⟩ = some (.slice Ao33 t464.length co33) := (blk_cell BK468.out 12).trans rfl; have hfz79_0 := blk_frozen BK468.out 0; have hfz79_1 := blk_frozen BK468.out 1; have hfz79_2 := blk_frozen BK468.out 2; have hfz79_3 := blk_frozen BK468.out 3; have hfz79_4 := blk_frozen BK468.out 4; have hfz79_5 := blk_frozen BK468.out 5; have hfz79_6 := blk_frozen BK468.out 6; have hfz79_7 := blk_frozen BK468.out 7; have hfz79_8 := blk_frozen BK468.out 8; have hfz79_9 := blk_frozen BK468.out 9; have hfz79_10 := blk_frozen BK468.out 10; have hfz79_11 := blk_frozen BK468.out 11; have hfz79_12 := blk_frozen BK468.out 12; have hcz80_0 : w78.cell? ⟨gb448, 0, none⟩ = some (.int .i64 x449000_2) := (blk_cell BK448.out 0).trans rfl; have hcz80_1 : w78.cell? ⟨gb448, 1, none⟩ = some (.int .i64 x449001_2) := (blk_cell BK448.out 1).trans rfl; have hcz80_2 : w78.cell? ⟨gb448, 2, none⟩ = some (.int .i64 x449002_2) := (blk_cell BK448.out 2).trans rfl; have hcz80_3 : w78.cell? ⟨gb448, 3, none⟩ = some (.int .i64 x449003_2) := (blk_cell BK448.out 3).trans rfl; have hcz80_4 : w78.cell? ⟨gb448, 4, none⟩ = some (.int .i64 x449004_2) := (blk_cell BK448.out 4).trans rfl; have hcz80_5 : w78.cell? ⟨gb448, 5, none⟩ = some (.int .i64 x449005_2) := (blk_cell BK448.out 5).trans rfl; have hcz80_6 : w78.cell? ⟨gb448, 6, none⟩ = some (.int .i64 x449006_2) := (blk_cell BK448.out 6).trans rfl; have hcz80_7 : w78.cell? ⟨gb448, 7, none⟩ = some (.int .i64 x449007_2) := (blk_cell BK448.out 7).trans rfl; have hcz80_8 : w78.cell? ⟨gb448, 8, none⟩ = some (.int .i64 x449008_2) := (blk_cell BK448.out 8).trans rfl; have hcz80_9 : w78.cell? ⟨gb448, 9, none⟩ = some (.int .i64 x449009_2) := (blk_cell BK448.out 9).trans rfl; have hcz80_10 : w78.cell? ⟨gb448, 10, none⟩ = some (.string x449010_2) := (blk_cell BK448.out 10).trans rfl; have hcz80_11 : w78.cell? ⟨gb448, 11, none⟩ = some (.int .i64 x449011_2) := (blk_cell BK448.out 11).trans rfl; have hcz80_12 : w78.cell? ⟨gb448, 12, none⟩ = some (.slice Ao16 x449012_2.length co16) := (blk_cell BK448.out 12).trans rfl; have hfz80_0 := blk_frozen BK448.out 0; have hfz80_1 := blk_frozen BK448.out 1; have hfz80_2 := blk_frozen BK448.out 2; have hfz80_3 := blk_frozen BK448.out 3; have hfz80_4 := blk_frozen BK448.out 4; have hfz80_5 := blk_frozen BK448.out 5; have hfz80_6 := blk_frozen BK448.out 6; have hfz80_7 := blk_frozen BK448.out 7; have hfz80_8 := blk_frozen BK448.out 8; have hfz80_9 := blk_frozen BK448.out 9; have hfz80_10 := blk_frozen BK448.out 10; have hfz80_11 := blk_frozen BK448.out 11; have hfz80_12 := blk_frozen BK448.out 12) | (go_at_call 11; (with_reducible refine (ballot_Cmp.calls k2 t455 t456 x449003_2 x449004_2 t470 _ A41.out).mono ?_); rintro e w81 ⟨rfl, hb⟩; have n0_ := Aside0.mk (Kd.R_below (by (with_reducible repeat (first | apply Kd.R_alloc | apply Kd.R_drewN | apply Kd.R_drew)); exact HO_449012.out) hb); have n1_ := Aside0.mk (Kd.R_below (by (with_reducible repeat (first | apply Kd.R_alloc | apply Kd.R_drewN | apply Kd.R_drew)); exact HO466.out) hb); have n2_ := Aside0.mk (blk_below (g := gb448) (by (with_reducible repeat (first | refine blk_drewN ?_ _ | refine blk_drew ?_ | refine blk_alloc ?_ _)); exact BK448.out) hb); have n3_ := Aside0.mk (blk_below (g := gb468) (by (with_reducible repeat (first | refine blk_drewN ?_ _ | refine blk_drew ?_ | refine blk_alloc ?_ _)); exact BK468.out) hb); have n4_ := Aside0.mk (below_step (by repeat (first | (with_reducible first | exact HB.out | apply below_alloc | apply pw_below_drewN | apply below_drew1 | refine below_set ?_ GE448.out | refine below_set ?_ GE468.out) | exact HB.out)) hb); clear HO_449012; clear HO466; clear BK448; clear BK468; clear HB; have HO_449012 := n0_; have HO466 := n1_; have BK448 := n2_; have BK468 := n3_; have HB := n4_; clear n0_ n1_ n2_ n3_ n4_; (try clear hb); (try clear hb2); (try clear hk); (try clear hi); have hcz82_0 : w81.cell? ⟨gb468, 0, none⟩ = some (.int .i64 t452) := (blk_cell BK468.out 0).trans rfl; have hcz82_1 : w81.cell? ⟨gb468, 1, none⟩ = some (.int .i64 t453) := (blk_cell BK468.out 1).trans rfl; have hcz82_2 : w81.cell? ⟨gb468, 2, none⟩ = some (.int .i64 t454) := (blk_cell BK468.out 2).trans rfl; have hcz82_3 : w81.cell? ⟨gb468, 3, none⟩ = some (.int .i64 t455) := (blk_cell BK468.out 3).trans rfl; have hcz82_4 : w81.cell? ⟨gb468, 4, none⟩ = some (.int .i64 t456) := (blk_cell BK468.out 4).trans rfl; have hcz82_5 : w81.cell? ⟨gb468, 5, none⟩ = some (.int .i64 t457) := (blk_cell BK468.out 5).trans rfl; have hcz82_6 : w81.cell? ⟨gb468, 6, none⟩ = some (.int .i64 t458) := (blk_cell BK468.out 6).trans rfl; have hcz82_7 : w81.cell? ⟨gb468, 7, none⟩ = some (.int .i64 t459) := (blk_cell BK468.out 7).trans rfl; have hcz82_8 : w81.cell? ⟨gb468, 8, none⟩ = some (.int .i64 t460) := (blk_cell BK468.out 8).trans rfl; have hcz82_9 : w81.cell? ⟨gb468, 9, none⟩ = some (.int .i64 t461) := (blk_cell BK468.out 9).trans rfl; have hcz82_10 : w81.cell? ⟨gb468, 10, none⟩ = some (.string t462) := (blk_cell BK468.out 10).trans rfl; have hcz82_11 : w81.cell? ⟨gb468, 11, none⟩ = some (.int .i64 t463) := (blk_cell BK468.out 11).trans rfl; have hcz82_12 : w81.cell? ⟨gb468, 12, none⟩ = some (.slice Ao33 t464.length co33) := (blk_cell BK468.out 12).trans rfl; have hfz82_0 := blk_frozen BK468.out 0; have hfz82_1 := blk_frozen BK468.out 1; have hfz82_2 := blk_frozen BK468.out 2; have hfz82_3 := blk_frozen BK468.out 3; have hfz82_4 := blk_frozen BK468.out 4; have hfz82_5 := blk_frozen BK468.out 5; have hfz82_6 := blk_frozen BK468.out 6; have hfz82_7 := blk_frozen BK468.out 7; have hfz82_8 := blk_frozen BK468.out 8; have hfz82_9 := blk_frozen BK468.out 9; have hfz82_10 := blk_frozen BK468.out 10; have hfz82_11 := blk_frozen BK468.out 11; have hfz82_12 := blk_frozen BK468.out 12) | (go_at_call 11; (with_reducible refine (ballot_Cmp.calls k2 t455 t456 t453 t454 t471 _ A50.out).mono ?_); rintro e w83 ⟨rfl, hb⟩; have n0_ := Aside0.mk (Kd.R_below (by (with_reducible repeat (first | apply Kd.R_alloc | apply Kd.R_drewN | apply Kd.R_drew)); exact HO_449012.out) hb); have n1_ := Aside0.mk (Kd.R_below (by (with_reducible repeat (first | apply Kd.R_alloc | apply Kd.R_drewN | apply Kd.R_drew)); exact HO466.out) hb); have n2_ := Aside0.mk (blk_below (g := gb448) (by (with_reducible repeat (first | refine blk_drewN ?_ _ | refine blk_drew ?_ | refine blk_alloc ?_ _)); exact BK448.out) hb); have n3_ := Aside0.mk (blk_below (g := gb468) (by (with_reducible repeat (first | refine blk_drewN ?_ _ | refine blk_drew ?_ | refine blk_alloc ?_ _)); exact BK468.out) hb); have n4_ := Aside0.mk (below_step (by repeat (first | (with_reducible first | exact HB.out | apply below_alloc | apply pw_below_drewN | apply below_drew1 | refine below_set ?_ GE448.out | refine below_set ?_ GE468.out) | exact HB.out)) hb); clear HO_449012; clear HO466; clear BK448; clear BK468; clear HB; have HO_449012 := n0_; have HO466 := n1_; have BK448 := n2_; have BK468 := n3_; have HB := n4_; clear n0_ n1_ n2_ n3_ n4_; (try clear hb); (try clear hb2); (try clear hk); (try clear hi); have hcz84_0 : w83.cell? ⟨gb468, 0, none⟩ = some (.int .i64 t452) := (blk_cell BK468.out 0).trans rfl; have hcz84_1 : w83.cell? ⟨gb468, 1, none⟩ = some (.int .i64 t453) := (blk_cell BK468.out 1).trans rfl; have hcz84_2 : w83.cell? ⟨gb468, 2, none⟩ = some (.int .i64 t454) := (blk_cell BK468.out 2).trans rfl; have hcz84_3 : w83.cell? ⟨gb468, 3, none⟩ = some (.int .i64 t455) := (blk_cell BK468.out 3).trans rfl; have hcz84_4 : w83.cell? ⟨gb468, 4, none⟩ = some (.int .i64 t456) := (blk_cell BK468.out 4).trans rfl; have hcz84_5 : w83.cell? ⟨gb468, 5, none⟩ = some (.int .i64 t457) := (blk_cell BK468.out 5).trans rfl; have hcz84_6 : w83.cell? ⟨gb468, 6, none⟩ = some (.int .i64 t458) := (blk_cell BK468.out 6).trans rfl; have hcz84_7 : w83.cell? ⟨gb468, 7, none⟩ = some (.int .i64 t459) := (blk_cell BK468.out 7).trans rfl; have hcz84_8 : w83.cell? ⟨gb468, 8, none⟩ = some (.int .i64 t460) := (blk_cell BK468.out 8).trans rfl; have hcz84_9 : w83.cell? ⟨gb468, 9, none⟩ = some (.int .i64 t461) := (blk_cell BK468.out 9).trans rfl; have hcz84_10 : w83.cell? ⟨gb468, 10, none⟩ = some (.string t462) := (blk_cell BK468.out 10).trans rfl; have hcz84_11 : w83.cell? ⟨gb468, 11, none⟩ = some (.int .i64 t463) := (blk_cell BK468.out 11).trans rfl; have hcz84_12 : w83.cell? ⟨gb468, 12, none⟩ = some (.slice Ao33 t464.length co33) := (blk_cell BK468.out 12).trans rfl; have hfz84_0 := blk_frozen BK468.out 0; have hfz84_1 := blk_frozen BK468.out 1; have hfz84_2 := blk_frozen BK468.out 2; have hfz84_3 := blk_frozen BK468.out 3; have hfz84_4 := blk_frozen BK468.out 4; have hfz84_5 := blk_frozen BK468.out 5; have hfz84_6 := blk_frozen BK468.out 6; have hfz84_7 := blk_frozen BK468.out 7; have hfz84_8 := blk_frozen BK468.out 8; have hfz84_9 := blk_frozen BK468.out 9; have hfz84_10 := blk_frozen BK468.out 10; have hfz84_11 := blk_frozen BK468.out 11; have hfz84_12 := blk_frozen BK468.out 12; have hcz85_0 : w83.cell? ⟨gb448, 0, none⟩ = some (.int .i64 x449000_2) := (blk_cell BK448.out 0).trans rfl; have hcz85_1 : w83.cell? ⟨gb448, 1, none⟩ = some (.int .i64 x449001_2) := (blk_cell BK448.out 1).trans rfl; have hcz85_2 : w83.cell? ⟨gb448, 2, none⟩ = some (.int .i64 x449002_2) := (blk_cell BK448.out 2).trans rfl; have hcz85_3 : w83.cell? ⟨gb448, 3, none⟩ = some (.int .i64 x449003_2) := (blk_cell BK448.out 3).trans rfl; have hcz85_4 : w83.cell? ⟨gb448, 4, none⟩ = some (.int .i64 x449004_2) := (blk_cell BK448.out 4).trans rfl; have hcz85_5 : w83.cell? ⟨gb448, 5, none⟩ = some (.int .i64 x449005_2) := (blk_cell BK448.out 5).trans rfl; have hcz85_6 : w83.cell? ⟨gb448, 6, none⟩ = some (.int .i64 x449006_2) := (blk_cell BK448.out 6).trans rfl; have hcz85_7 : w83.cell? ⟨gb448, 7, none⟩ = some (.int .i64 x449007_2) := (blk_cell BK448.out 7).trans rfl; have hcz85_8 : w83.cell? ⟨gb448, 8, none⟩ = some (.int .i64 x449008_2) := (blk_cell BK448.out 8).trans rfl; have hcz85_9 : w83.cell? ⟨gb448, 9, none⟩ = some (.int .i64 x449009_2) := (blk_cell BK448.out 9).trans rfl; have hcz85_10 : w83.cell? ⟨gb448, 10, none⟩ = some (.string x449010_2) := (blk_cell BK448.out 10).trans rfl; have hcz85_11 : w83.cell? ⟨gb448, 11, none⟩ = some (.int .i64 x449011_2) := (blk_cell BK448.out 11).trans rfl; have hcz85_12 : w83.cell? ⟨gb448, 12, none⟩ = some (.slice Ao16 x449012_2.length co16) := (blk_cell BK448.out 12).trans rfl; have hfz85_0 := blk_frozen BK448.out 0; have hfz85_1 := blk_frozen BK448.out 1; have hfz85_2 := blk_frozen BK448.out 2; have hfz85_3 := blk_frozen BK448.out 3; have hfz85_4 := blk_frozen BK448.out 4; have hfz85_5 := blk_frozen BK448.out 5; have hfz85_6 := blk_frozen BK448.out 6; have hfz85_7 := blk_frozen BK448.out 7; have hfz85_8 := blk_frozen BK448.out 8; have hfz85_9 := blk_frozen BK448.out 9; have hfz85_10 := blk_frozen BK448.out 10; have hfz85_11 := blk_frozen BK448.out 11; have hfz85_12 := blk_frozen BK448.out 12))
                            go_meet
                            case rel => exact ⟨_, (false), (by first | rfl | (simp; done) | (simp [*]; done)), H', ⟨by have := HJ2.out; have := HK2.out; first | omega | exact Nat.le_refl _⟩, ⟨by (with_reducible repeat (first | apply Kd.R_alloc | apply Kd.R_drewN | apply Kd.R_drew)); exact HO_449012.out⟩, ⟨by (with_reducible repeat (first | apply Kd.R_alloc | apply Kd.R_drewN | apply Kd.R_drew)); exact HO466.out⟩, ⟨by (with_reducible repeat (first | refine blk_drewN ?_ _ | refine blk_drew ?_ | refine blk_alloc ?_ _)); exact BK448.out⟩, ⟨by (with_reducible repeat (first | refine blk_drewN ?_ _ | refine blk_drew ?_ | refine blk_alloc ?_ _)); exact BK468.out⟩, ⟨by repeat (first | (with_reducible first | exact HB.out | apply below_alloc | apply pw_below_drewN | apply below_drew1 | refine below_set ?_ GE448.out | refine below_set ?_ GE468.out) | exact HB.out)⟩⟩
                  case rest =>
                    clear HC14
                    try clear c1
                    try clear p2
                    try clear c3
                    try clear c4
                    try clear c5
                    try clear c6
                    try clear c7
                    try clear c10
                    try clear c11
                    try clear c36
                    try clear c36b0
                    try clear c37
                    try clear c42
                    try clear c42b0
                    try clear c43
                    try clear c45
                    try clear c51
                    try clear c51b0
                    try clear c52
                    try clear c61
                    try clear c61b0
                    try clear c63
                    try clear c75
                    try clear hcz38_0
                    try clear hcz38_1
                    try clear hcz38_10
                    try clear hcz38_11
                    try clear hcz38_12
                    try clear hcz38_2
                    try clear hcz38_3
                    try clear hcz38_4
                    try clear hcz38_5
                    try clear hcz38_6
                    try clear hcz38_7
                    try clear hcz38_8
                    try clear hcz38_9
                    try clear hcz39_0
                    try clear hcz39_1
                    try clear hcz39_10
                    try clear hcz39_11
                    try clear hcz39_12
                    try clear hcz39_2
                    try clear hcz39_3
                    try clear hcz39_4
                    try clear hcz39_5
                    try clear hcz39_6
                    try clear hcz39_7
                    try clear hcz39_8
                    try clear hcz39_9
                    try clear hcz44_0
                    try clear hcz44_1
                    try clear hcz44_10
                    try clear hcz44_11
                    try clear hcz44_12
                    try clear hcz44_2
                    try clear hcz44_3
                    try clear hcz44_4
                    try clear hcz44_5
                    try clear hcz44_6
                    try clear hcz44_7
                    try clear hcz44_8
                    try clear hcz44_9
                    try clear hcz45_0
                    try clear hcz45_1
                    try clear hcz45_10
                    try clear hcz45_11
                    try clear hcz45_12
                    try clear hcz45_2
                    try clear hcz45_3
                    try clear hcz45_4
                    try clear hcz45_5
                    try clear hcz45_6
                    try clear hcz45_7
                    try clear hcz45_8
                    try clear hcz45_9
                    try clear hcz47_0
                    try clear hcz47_1
                    try clear hcz47_10
                    try clear hcz47_11
                    try clear hcz47_12
                    try clear hcz47_2
                    try clear hcz47_3
                    try clear hcz47_4
                    try clear hcz47_5
                    try clear hcz47_6
                    try clear hcz47_7
                    try clear hcz47_8
                    try clear hcz47_9
                    try clear hcz48_0
                    try clear hcz48_1
                    try clear hcz48_10
                    try clear hcz48_11
                    try clear hcz48_12
                    try clear hcz48_2
                    try clear hcz48_3
                    try clear hcz48_4
                    try clear hcz48_5
                    try clear hcz48_6
                    try clear hcz48_7
                    try clear hcz48_8
                    try clear hcz48_9
                    try clear hcz53_0
                    try clear hcz53_1
                    try clear hcz53_10
                    try clear hcz53_11
                    try clear hcz53_12
                    try clear hcz53_2
                    try clear hcz53_3
                    try clear hcz53_4
                    try clear hcz53_5
                    try clear hcz53_6
                    try clear hcz53_7
                    try clear hcz53_8
                    try clear hcz53_9
                    try clear hcz54_0
                    try clear hcz54_1
                    try clear hcz54_10
                    try clear hcz54_11
                    try clear hcz54_12
                    try clear hcz54_2
                    try clear hcz54_3
                    try clear hcz54_4
                    try clear hcz54_5
                    try clear hcz54_6
                    try clear hcz54_7
                    try clear hcz54_8
                    try clear hcz54_9
                    try clear hcz56_0
                    try clear hcz56_1
                    try clear hcz56_10
                    try clear hcz56_11
                    try clear hcz56_12
                    try clear hcz56_2
                    try clear hcz56_3
                    try clear hcz56_4
                    try clear hcz56_5
                    try clear hcz56_6
                    try clear hcz56_7
                    try clear hcz56_8
                    try clear hcz56_9
                    try clear hcz57_0
                    try clear hcz57_1
                    try clear hcz57_10
                    try clear hcz57_11
                    try clear hcz57_12
                    try clear hcz57_2
                    try clear hcz57_3
                    try clear hcz57_4
                    try clear hcz57_5
                    try clear hcz57_6
                    try clear hcz57_7
                    try clear hcz57_8
                    try clear hcz57_9
                    try clear hcz59_0
                    try clear hcz59_1
                    try clear hcz59_10
                    try clear hcz59_11
                    try clear hcz59_12
                    try clear hcz59_2
                    try clear hcz59_3
                    try clear hcz59_4
                    try clear hcz59_5
                    try clear hcz59_6
                    try clear hcz59_7
                    try clear hcz59_8
                    try clear hcz59_9
                    try clear hcz64_0
                    try clear hcz64_1
                    try clear hcz64_10
                    try clear hcz64_11
                    try clear hcz64_12
                    try clear hcz64_2
                    try clear hcz64_3
                    try clear hcz64_4
                    try clear hcz64_5
                    try clear hcz64_6
                    try clear hcz64_7
                    try clear hcz64_8
                    try clear hcz64_9
                    try clear hcz65_0
                    try clear hcz65_1
                    try clear hcz65_10
                    try clear hcz65_11
                    try clear hcz65_12
                    try clear hcz65_2
                    try clear hcz65_3
                    try clear hcz65_4
                    try clear hcz65_5
                    try clear hcz65_6
                    try clear hcz65_7
                    try clear hcz65_8
                    try clear hcz65_9
                    try clear hcz67_0
                    try clear hcz67_1
                    try clear hcz67_10
                    try clear hcz67_11
                    try clear hcz67_12
                    try clear hcz67_2
                    try clear hcz67_3
                    try clear hcz67_4
                    try clear hcz67_5
                    try clear hcz67_6
                    try clear hcz67_7
                    try clear hcz67_8
                    try clear hcz67_9
                    try clear hcz68_0
                    try clear hcz68_1
                    try clear hcz68_10
                    try clear hcz68_11
                    try clear hcz68_12
                    try clear hcz68_2
                    try clear hcz68_3
                    try clear hcz68_4
                    try clear hcz68_5
                    try clear hcz68_6
                    try clear hcz68_7
                    try clear hcz68_8
                    try clear hcz68_9
                    try clear hcz70_0
                    try clear hcz70_1
                    try clear hcz70_10
                    try clear hcz70_11
                    try clear hcz70_12
                    try clear hcz70_2
                    try clear hcz70_3
                    try clear hcz70_4
                    try clear hcz70_5
                    try clear hcz70_6
                    try clear hcz70_7
                    try clear hcz70_8
                    try clear hcz70_9
                    try clear hcz72_0
                    try clear hcz72_1
                    try clear hcz72_10
                    try clear hcz72_11
                    try clear hcz72_12
                    try clear hcz72_2
                    try clear hcz72_3
                    try clear hcz72_4
                    try clear hcz72_5
                    try clear hcz72_6
                    try clear hcz72_7
                    try clear hcz72_8
                    try clear hcz72_9
                    try clear hcz73_0
                    try clear hcz73_1
                    try clear hcz73_10
                    try clear hcz73_11
                    try clear hcz73_12
                    try clear hcz73_2
                    try clear hcz73_3
                    try clear hcz73_4
                    try clear hcz73_5
                    try clear hcz73_6
                    try clear hcz73_7
                    try clear hcz73_8
                    try clear hcz73_9
                    try clear hcz76_0
                    try clear hcz76_1
                    try clear hcz76_10
                    try clear hcz76_11
                    try clear hcz76_12
                    try clear hcz76_2
                    try clear hcz76_3
                    try clear hcz76_4
                    try clear hcz76_5
                    try clear hcz76_6
                    try clear hcz76_7
                    try clear hcz76_8
                    try clear hcz76_9
                    try clear hcz77_0
                    try clear hcz77_1
                    try clear hcz77_10
                    try clear hcz77_11
                    try clear hcz77_12
                    try clear hcz77_2
                    try clear hcz77_3
                    try clear hcz77_4
                    try clear hcz77_5
                    try clear hcz77_6
                    try clear hcz77_7
                    try clear hcz77_8
                    try clear hcz77_9
                    try clear hcz79_0
                    try clear hcz79_1
                    try clear hcz79_10
                    try clear hcz79_11
                    try clear hcz79_12
                    try clear hcz79_2
                    try clear hcz79_3
                    try clear hcz79_4
                    try clear hcz79_5
                    try clear hcz79_6
                    try clear hcz79_7
                    try clear hcz79_8
                    try clear hcz79_9
                    try clear hcz80_0
                    try clear hcz80_1
                    try clear hcz80_10
                    try clear hcz80_11
                    try clear hcz80_12
                    try clear hcz80_2
                    try clear hcz80_3
                    try clear hcz80_4
                    try clear hcz80_5
                    try clear hcz80_6
                    try clear hcz80_7
                    try clear hcz80_8
                    try clear hcz80_9
                    try clear hcz82_0
                    try clear hcz82_1
                    try clear hcz82_10
                    try clear hcz82_11
                    try clear hcz82_12
                    try clear hcz82_2
                    try clear hcz82_3
                    try clear hcz82_4
                    try clear hcz82_5
                    try clear hcz82_6
                    try clear hcz82_7
                    try clear hcz82_8
                    try clear hcz82_9
                    try clear hcz84_0
                    try clear hcz84_1
                    try clear hcz84_10
                    try clear hcz84_11
                    try clear hcz84_12
                    try clear hcz84_2
                    try clear hcz84_3
                    try clear hcz84_4
                    try clear hcz84_5
                    try clear hcz84_6
                    try clear hcz84_7
                    try clear hcz84_8
                    try clear hcz84_9
                    try clear hcz85_0
                    try clear hcz85_1
                    try clear hcz85_10
                    try clear hcz85_11
                    try clear hcz85_12
                    try clear hcz85_2
                    try clear hcz85_3
                    try clear hcz85_4
                    try clear hcz85_5
                    try clear hcz85_6
                    try clear hcz85_7
                    try clear hcz85_8
                    try clear hcz85_9
                    try clear hfz38_0
                    try clear hfz38_1
                    try clear hfz38_10
                    try clear hfz38_11
                    try clear hfz38_12
                    try clear hfz38_2
                    try clear hfz38_3
                    try clear hfz38_4
                    try clear hfz38_5
                    try clear hfz38_6
                    try clear hfz38_7
                    try clear hfz38_8
                    try clear hfz38_9
                    try clear hfz39_0
                    try clear hfz39_1
                    try clear hfz39_10
                    try clear hfz39_11
                    try clear hfz39_12
                    try clear hfz39_2
                    try clear hfz39_3
                    try clear hfz39_4
                    try clear hfz39_5
                    try clear hfz39_6
                    try clear hfz39_7
                    try clear hfz39_8
                    try clear hfz39_9
                    try clear hfz44_0
                    try clear hfz44_1
                    try clear hfz44_10
                    try clear hfz44_11
                    try clear hfz44_12
                    try clear hfz44_2
                    try clear hfz44_3
                    try clear hfz44_4
                    try clear hfz44_5
                    try clear hfz44_6
                    try clear hfz44_7
                    try clear hfz44_8
                    try clear hfz44_9
                    try clear hfz45_0
                    try clear hfz45_1
                    try clear hfz45_10
                    try clear hfz45_11
                    try clear hfz45_12
                    try clear hfz45_2
                    try clear hfz45_3
                    try clear hfz45_4
                    try clear hfz45_5
                    try clear hfz45_6
                    try clear hfz45_7
                    try clear hfz45_8
                    try clear hfz45_9
                    try clear hfz47_0
                    try clear hfz47_1
                    try clear hfz47_10
                    try clear hfz47_11
                    try clear hfz47_12
                    try clear hfz47_2
                    try clear hfz47_3
                    try clear hfz47_4
                    try clear hfz47_5
                    try clear hfz47_6
                    try clear hfz47_7
                    try clear hfz47_8
                    try clear hfz47_9
                    try clear hfz48_0
                    try clear hfz48_1
                    try clear hfz48_10
                    try clear hfz48_11
                    try clear hfz48_12
                    try clear hfz48_2
                    try clear hfz48_3
                    try clear hfz48_4
                    try clear hfz48_5
                    try clear hfz48_6
                    try clear hfz48_7
                    try clear hfz48_8
                    try clear hfz48_9
                    try clear hfz53_0
                    try clear hfz53_1
                    try clear hfz53_10
                    try clear hfz53_11
                    try clear hfz53_12
                    try clear hfz53_2
                    try clear hfz53_3
                    try clear hfz53_4
                    try clear hfz53_5
                    try clear hfz53_6
                    try clear hfz53_7
                    try clear hfz53_8
                    try clear hfz53_9
                    try clear hfz54_0
                    try clear hfz54_1
                    try clear hfz54_10
                    try clear hfz54_11
                    try clear hfz54_12
                    try clear hfz54_2
                    try clear hfz54_3
                    try clear hfz54_4
                    try clear hfz54_5
                    try clear hfz54_6
                    try clear hfz54_7
                    try clear hfz54_8
                    try clear hfz54_9
                    try clear hfz56_0
                    try clear hfz56_1
                    try clear hfz56_10
                    try clear hfz56_11
                    try clear hfz56_12
                    try clear hfz56_2
                    try clear hfz56_3
                    try clear hfz56_4
                    try clear hfz56_5
                    try clear hfz56_6
                    try clear hfz56_7
                    try clear hfz56_8
                    try clear hfz56_9
                    try clear hfz57_0
                    try clear hfz57_1
                    try clear hfz57_10
                    try clear hfz57_11
                    try clear hfz57_12
                    try clear hfz57_2
                    try clear hfz57_3
                    try clear hfz57_4
                    try clear hfz57_5
                    try clear hfz57_6
                    try clear hfz57_7
                    try clear hfz57_8
                    try clear hfz57_9
                    try clear hfz59_0
                    try clear hfz59_1
                    try clear hfz59_10
                    try clear hfz59_11
                    try clear hfz59_12
                    try clear hfz59_2
                    try clear hfz59_3
                    try clear hfz59_4
                    try clear hfz59_5
                    try clear hfz59_6
                    try clear hfz59_7
                    try clear hfz59_8
                    try clear hfz59_9
                    try clear hfz64_0
                    try clear hfz64_1
                    try clear hfz64_10
                    try clear hfz64_11
                    try clear hfz64_12
                    try clear hfz64_2
                    try clear hfz64_3
                    try clear hfz64_4
                    try clear hfz64_5
                    try clear hfz64_6
                    try clear hfz64_7
                    try clear hfz64_8
                    try clear hfz64_9
                    try clear hfz65_0
                    try clear hfz65_1
                    try clear hfz65_10
                    try clear hfz65_11
                    try clear hfz65_12
                    try clear hfz65_2
                    try clear hfz65_3
                    try clear hfz65_4
                    try clear hfz65_5
                    try clear hfz65_6
                    try clear hfz65_7
                    try clear hfz65_8
                    try clear hfz65_9
                    try clear hfz67_0
                    try clear hfz67_1
                    try clear hfz67_10
                    try clear hfz67_11
                    try clear hfz67_12
                    try clear hfz67_2
                    try clear hfz67_3
                    try clear hfz67_4
                    try clear hfz67_5
                    try clear hfz67_6
                    try clear hfz67_7
                    try clear hfz67_8
                    try clear hfz67_9
                    try clear hfz68_0
                    try clear hfz68_1
                    try clear hfz68_10
                    try clear hfz68_11
                    try clear hfz68_12
                    try clear hfz68_2
                    try clear hfz68_3
                    try clear hfz68_4
                    try clear hfz68_5
                    try clear hfz68_6
                    try clear hfz68_7
                    try clear hfz68_8
                    try clear hfz68_9
                    try clear hfz70_0
                    try clear hfz70_1
                    try clear hfz70_10
                    try clear hfz70_11
                    try clear hfz70_12
                    try clear hfz70_2
                    try clear hfz70_3
                    try clear hfz70_4
                    try clear hfz70_5
                    try clear hfz70_6
                    try clear hfz70_7
                    try clear hfz70_8
                    try clear hfz70_9
                    try clear hfz72_0
                    try clear hfz72_1
                    try clear hfz72_10
                    try clear hfz72_11
                    try clear hfz72_12
                    try clear hfz72_2
                    try clear hfz72_3
                    try clear hfz72_4
                    try clear hfz72_5
                    try clear hfz72_6
                    try clear hfz72_7
                    try clear hfz72_8
                    try clear hfz72_9
                    try clear hfz73_0
                    try clear hfz73_1
                    try clear hfz73_10
                    try clear hfz73_11
                    try clear hfz73_12
                    try clear hfz73_2
                    try clear hfz73_3
                    try clear hfz73_4
                    try clear hfz73_5
                    try clear hfz73_6
                    try clear hfz73_7
                    try clear hfz73_8
                    try clear hfz73_9
                    try clear hfz76_0
                    try clear hfz76_1
                    try clear hfz76_10
                    try clear hfz76_11
                    try clear hfz76_12
                    try clear hfz76_2
                    try clear hfz76_3
                    try clear hfz76_4
                    try clear hfz76_5
                    try clear hfz76_6
                    try clear hfz76_7
                    try clear hfz76_8
                    try clear hfz76_9
                    try clear hfz77_0
                    try clear hfz77_1
                    try clear hfz77_10
                    try clear hfz77_11
                    try clear hfz77_12
                    try clear hfz77_2
                    try clear hfz77_3
                    try clear hfz77_4
                    try clear hfz77_5
                    try clear hfz77_6
                    try clear hfz77_7
                    try clear hfz77_8
                    try clear hfz77_9
                    try clear hfz79_0
                    try clear hfz79_1
                    try clear hfz79_10
                    try clear hfz79_11
                    try clear hfz79_12
                    try clear hfz79_2
                    try clear hfz79_3
                    try clear hfz79_4
                    try clear hfz79_5
                    try clear hfz79_6
                    try clear hfz79_7
                    try clear hfz79_8
                    try clear hfz79_9
                    try clear hfz80_0
                    try clear hfz80_1
                    try clear hfz80_10
                    try clear hfz80_11
                    try clear hfz80_12
                    try clear hfz80_2
                    try clear hfz80_3
                    try clear hfz80_4
                    try clear hfz80_5
                    try clear hfz80_6
                    try clear hfz80_7
                    try clear hfz80_8
                    try clear hfz80_9
                    try clear hfz82_0
                    try clear hfz82_1
                    try clear hfz82_10
                    try clear hfz82_11
                    try clear hfz82_12
                    try clear hfz82_2
                    try clear hfz82_3
                    try clear hfz82_4
                    try clear hfz82_5
                    try clear hfz82_6
                    try clear hfz82_7
                    try clear hfz82_8
                    try clear hfz82_9
                    try clear hfz84_0
                    try clear hfz84_1
                    try clear hfz84_10
                    try clear hfz84_11
                    try clear hfz84_12
                    try clear hfz84_2
                    try clear hfz84_3
                    try clear hfz84_4
                    try clear hfz84_5
                    try clear hfz84_6
                    try clear hfz84_7
                    try clear hfz84_8
                    try clear hfz84_9
                    try clear hfz85_0
                    try clear hfz85_1
                    try clear hfz85_10
                    try clear hfz85_11
                    try clear hfz85_12
                    try clear hfz85_2
                    try clear hfz85_3
                    try clear hfz85_4
                    try clear hfz85_5
                    try clear hfz85_6
                    try clear hfz85_7
                    try clear hfz85_8
                    try clear hfz85_9
                    obtain ⟨kq, x78_13, rfl, HA, HJ13, HO_449012, HO_469012, BK448, BK468, HB⟩ := hcut
                    cases kq with
                    | zero => exact absurd HA.out (by simp [colloquylaw09_InstanceRises.j2])
                    | succ kj13 =>
                      have H := HA.out
                      clear HA
                      simp only [colloquylaw09_InstanceRises.j2] at H
                      by_cases c86 : x78_13 = true
                      · subst c86
                        have H1 : (some false) = some r := by rw [if_pos rfl] at H; exact H
                        clear H
                        have H := H1
                        clear H1
                        exact absurd (Option.some.inj H) (by rw [HRT.out]; decide)
                      · replace c86 := Bool.eq_false_iff.mpr c86
                        subst c86
                        have H1 : (if x449000_2 = 3 then ((instance_Same.f t452 t453 t454 t455 t456 t457 t458 t459 t460 t461 t462 t463 t464 x449000_2 x449001_2 x449002_2 x449003_2 x449004_2 x449005_2 x449006_2 x449007_2 x449008_2 x449009_2 x449010_2 x449011_2 x449012_2).bind fun t473 => (if t473 = true then (colloquylaw09_InstanceRises.l0 kj13 l0 (wrap64 (x5_2 + 1)) t452 t453 t454 t455 t456 t457 t458 t459 t460 t461 t462 t463 t464) else (some false))) else (colloquylaw09_InstanceRises.l0 kj13 l0 (wrap64 (x5_2 + 1)) t452 t453 t454 t455 t456 t457 t458 t459 t460 t461 t462 t463 t464)) = some r := by rw [if_neg (show ¬ (false = true) by decide)] at H; exact H
                        clear H
                        have H := H1
                        clear H1
                        by_cases c87 : x449000_2 = 3
                        · rw [if_pos c87] at H
                          have c87b0 : (x449000_2 == 3) = true := beq_iff_eq.mpr c87
                          have c87b1 : (x449000_2 != 3) = false := bne_eq_false_iff_eq.mpr c87
                          clear c87
                          replace H := Option.bind_eq_some_iff.mp H
                          obtain ⟨t473, A880, H⟩ := H
                          replace H : (if t473 = true then (colloquylaw09_InstanceRises.l0 kj13 l0 (wrap64 (x5_2 + 1)) t452 t453 t454 t455 t456 t457 t458 t459 t460 t461 t462 t463 t464) else (some false)) = some r := H
                          have A88 := Aside0.mk A880
                          clear A880
                          by_cases c89 : t473 = true
                          · subst c89
                            have H1 : (colloquylaw09_InstanceRises.l0 kj13 l0 (wrap64 (x5_2 + 1)) t452 t453 t454 t455 t456 t457 t458 t459 t460 t461 t462 t463 t464) = some r := by rw [if_pos rfl] at H; exact H
                            clear H
                            have H := H1
                            clear H1
                            have H' := Aside0.mk H
                            clear H
                            have hnb90 := NB448_468.out
                            have hnc90 := NB468_448.out
                            have hcz91_0 : wc.cell? ⟨gb448, 0, none⟩ = some (.int .i64 x449000_2) := (blk_cell BK448.out 0).trans rfl
                            have hcz91_1 : wc.cell? ⟨gb448, 1, none⟩ = some (.int .i64 x449001_2) := (blk_cell BK448.out 1).trans rfl
                            have hcz91_2 : wc.cell? ⟨gb448, 2, none⟩ = some (.int .i64 x449002_2) := (blk_cell BK448.out 2).trans rfl
                            have hcz91_3 : wc.cell? ⟨gb448, 3, none⟩ = some (.int .i64 x449003_2) := (blk_cell BK448.out 3).trans rfl
                            have hcz91_4 : wc.cell? ⟨gb448, 4, none⟩ = some (.int .i64 x449004_2) := (blk_cell BK448.out 4).trans rfl
                            have hcz91_5 : wc.cell? ⟨gb448, 5, none⟩ = some (.int .i64 x449005_2) := (blk_cell BK448.out 5).trans rfl
                            have hcz91_6 : wc.cell? ⟨gb448, 6, none⟩ = some (.int .i64 x449006_2) := (blk_cell BK448.out 6).trans rfl
                            have hcz91_7 : wc.cell? ⟨gb448, 7, none⟩ = some (.int .i64 x449007_2) := (blk_cell BK448.out 7).trans rfl
                            have hcz91_8 : wc.cell? ⟨gb448, 8, none⟩ = some (.int .i64 x449008_2) := (blk_cell BK448.out 8).trans rfl
                            have hcz91_9 : wc.cell? ⟨gb448, 9, none⟩ = some (.int .i64 x449009_2) := (blk_cell BK448.out 9).trans rfl
                            have hcz91_10 : wc.cell? ⟨gb448, 10, none⟩ = some (.string x449010_2) := (blk_cell BK448.out 10).trans rfl
                            have hcz91_11 : wc.cell? ⟨gb448, 11, none⟩ = some (.int .i64 x449011_2) := (blk_cell BK448.out 11).trans rfl
                            have hcz91_12 : wc.cell? ⟨gb448, 12, none⟩ = some (.slice Ao16 x449012_2.length co16) := (blk_cell BK448.out 12).trans rfl
                            have hfz91_0 := blk_frozen BK448.out 0
                            have hfz91_1 := blk_frozen BK448.out 1
                            have hfz91_2 := blk_frozen BK448.out 2
                            have hfz91_3 := blk_frozen BK448.out 3
                            have hfz91_4 := blk_frozen BK448.out 4
                            have hfz91_5 := blk_frozen BK448.out 5
                            have hfz91_6 := blk_frozen BK448.out 6
                            have hfz91_7 := blk_frozen BK448.out 7
                            have hfz91_8 := blk_frozen BK448.out 8
                            have hfz91_9 := blk_frozen BK448.out 9
                            have hfz91_10 := blk_frozen BK448.out 10
                            have hfz91_11 := blk_frozen BK448.out 11
                            have hfz91_12 := blk_frozen BK448.out 12
                            have hcz92_0 : wc.cell? ⟨gb468, 0, none⟩ = some (.int .i64 t452) := (blk_cell BK468.out 0).trans rfl
                            have hcz92_1 : wc.cell? ⟨gb468, 1, none⟩ = some (.int .i64 t453) := (blk_cell BK468.out 1).trans rfl
                            have hcz92_2 : wc.cell? ⟨gb468, 2, none⟩ = some (.int .i64 t454) := (blk_cell BK468.out 2).trans rfl
                            have hcz92_3 : wc.cell? ⟨gb468, 3, none⟩ = some (.int .i64 t455) := (blk_cell BK468.out 3).trans rfl
                            have hcz92_4 : wc.cell? ⟨gb468, 4, none⟩ = some (.int .i64 t456) := (blk_cell BK468.out 4).trans rfl
                            have hcz92_5 : wc.cell? ⟨gb468, 5, none⟩ = some (.int .i64 t457) := (blk_cell BK468.out 5).trans rfl
                            have hcz92_6 : wc.cell? ⟨gb468, 6, none⟩ = some (.int .i64 t458) := (blk_cell BK468.out 6).trans rfl
                            have hcz92_7 : wc.cell? ⟨gb468, 7, none⟩ = some (.int .i64 t459) := (blk_cell BK468.out 7).trans rfl
                            have hcz92_8 : wc.cell? ⟨gb468, 8, none⟩ = some (.int .i64 t460) := (blk_cell BK468.out 8).trans rfl
                            have hcz92_9 : wc.cell? ⟨gb468, 9, none⟩ = some (.int .i64 t461) := (blk_cell BK468.out 9).trans rfl
                            have hcz92_10 : wc.cell? ⟨gb468, 10, none⟩ = some (.string t462) := (blk_cell BK468.out 10).trans rfl
                            have hcz92_11 : wc.cell? ⟨gb468, 11, none⟩ = some (.int .i64 t463) := (blk_cell BK468.out 11).trans rfl
                            have hcz92_12 : wc.cell? ⟨gb468, 12, none⟩ = some (.slice Ao33 t464.length co33) := (blk_cell BK468.out 12).trans rfl
                            have hfz92_0 := blk_frozen BK468.out 0
                            have hfz92_1 := blk_frozen BK468.out 1
                            have hfz92_2 := blk_frozen BK468.out 2
                            have hfz92_3 := blk_frozen BK468.out 3
                            have hfz92_4 := blk_frozen BK468.out 4
                            have hfz92_5 := blk_frozen BK468.out 5
                            have hfz92_6 := blk_frozen BK468.out 6
                            have hfz92_7 := blk_frozen BK468.out 7
                            have hfz92_8 := blk_frozen BK468.out 8
                            have hfz92_9 := blk_frozen BK468.out 9
                            have hfz92_10 := blk_frozen BK468.out 10
                            have hfz92_11 := blk_frozen BK468.out 11
                            have hfz92_12 := blk_frozen BK468.out 12
                            go_wp2_with (first | (go_at_call 12; (with_reducible refine (instance_Same.calls t452 t453 t454 t455 t456 t457 t458 t459 t460 t461 t462 t463 _ _ t464 x449000_2 x449001_2 x449002_2 x449003_2 x449004_2 x449005_2 x449006_2 x449007_2 x449008_2 x449009_2 x449010_2 x449011_2 _ _ x449012_2 true _ ?side1 ?side2 ?side3 ?side4 A88.out).mono ?_); (case side1 => repeat (first | exact (Kd.R_reads' HO_469012.out).2.2 | (with_reducible refine Kd.C_alloc ?_ _) | (with_reducible refine Kd.C_drewN ?_ _) | (with_reducible refine Kd.C_drew ?_))); (case side2 => exact (Kd.R_reads' HO_469012.out).2.1); (case side3 => repeat (first | exact (Kd.R_reads' HO_449012.out).2.2 | (with_reducible refine Kd.C_alloc ?_ _) | (with_reducible refine Kd.C_drewN ?_ _) | (with_reducible refine Kd.C_drew ?_))); (case side4 => exact (Kd.R_reads' HO_449012.out).2.1); rintro e w93 ⟨rfl, hb⟩; have n0_ := Aside0.mk (Kd.R_below (by (with_reducible repeat (first | apply Kd.R_alloc | apply Kd.R_drewN | apply Kd.R_drew)); exact HO_449012.out) hb); have n1_ := Aside0.mk (Kd.R_below (by (with_reducible repeat (first | apply Kd.R_alloc | apply Kd.R_drewN | apply Kd.R_drew)); exact HO_469012.out) hb); have n2_ := Aside0.mk (blk_below (g := gb448) (by (with_reducible repeat (first | refine blk_drewN ?_ _ | refine blk_drew ?_ | refine blk_alloc ?_ _)); exact BK448.out) hb); have n3_ := Aside0.mk (blk_below (g := gb468) (by (with_reducible repeat (first | refine blk_drewN ?_ _ | refine blk_drew ?_ | refine blk_alloc ?_ _)); exact BK468.out) hb); have n4_ := Aside0.mk (below_step (by repeat (first | (with_reducible first | exact HB.out | apply below_alloc | apply pw_below_drewN | apply below_drew1 | refine below_set ?_ GE448.out | refine below_set ?_ GE468.out) | exact HB.out)) hb); clear HO_449012; clear HO_469012; clear BK448; clear BK468; clear HB; have HO_449012 := n0_; have HO_469012 := n1_; have BK448 := n2_; have BK468 := n3_; have HB := n4_; clear n0_ n1_ n2_ n3_ n4_; (try clear hb); (try clear hb2); (try clear hk); (try clear hi); have hcz94_0 : w93.cell? ⟨gb468, 0, none⟩ = some (.int .i64 t452) := (blk_cell BK468.out 0).trans rfl; have hcz94_1 : w93.cell? ⟨gb468, 1, none⟩ = some (.int .i64 t453) := (blk_cell BK468.out 1).trans rfl; have hcz94_2 : w93.cell? ⟨gb468, 2, none⟩ = some (.int .i64 t454) := (blk_cell BK468.out 2).trans rfl; have hcz94_3 : w93.cell? ⟨gb468, 3, none⟩ = some (.int .i64 t455) := (blk_cell BK468.out 3).trans rfl; have hcz94_4 : w93.cell? ⟨gb468, 4, none⟩ = some (.int .i64 t456) := (blk_cell BK468.out 4).trans rfl; have hcz94_5 : w93.cell? ⟨gb468, 5, none⟩ = some (.int .i64 t457) := (blk_cell BK468.out 5).trans rfl; have hcz94_6 : w93.cell? ⟨gb468, 6, none⟩ = some (.int .i64 t458) := (blk_cell BK468.out 6).trans rfl; have hcz94_7 : w93.cell? ⟨gb468, 7, none⟩ = some (.int .i64 t459) := (blk_cell BK468.out 7).trans rfl; have hcz94_8 : w93.cell? ⟨gb468, 8, none⟩ = some (.int .i64 t460) := (blk_cell BK468.out 8).trans rfl; have hcz94_9 : w93.cell? ⟨gb468, 9, none⟩ = some (.int .i64 t461) := (blk_cell BK468.out 9).trans rfl; have hcz94_10 : w93.cell? ⟨gb468, 10, none⟩ = some (.string t462) := (blk_cell BK468.out 10).trans rfl; have hcz94_11 : w93.cell? ⟨gb468, 11, none⟩ = some (.int .i64 t463) := (blk_cell BK468.out 11).trans rfl; have hcz94_12 : w93.cell? ⟨gb468, 12, none⟩ = some (.slice Ao33 t464.length co33) := (blk_cell BK468.out 12).trans rfl; have hfz94_0 := blk_frozen BK468.out 0; have hfz94_1 := blk_frozen BK468.out 1; have hfz94_2 := blk_frozen BK468.out 2; have hfz94_3 := blk_frozen BK468.out 3; have hfz94_4 := blk_frozen BK468.out 4; have hfz94_5 := blk_frozen BK468.out 5; have hfz94_6 := blk_frozen BK468.out 6; have hfz94_7 := blk_frozen BK468.out 7; have hfz94_8 := blk_frozen BK468.out 8; have hfz94_9 := blk_frozen BK468.out 9; have hfz94_10 := blk_frozen BK468.out 10; have hfz94_11 := blk_frozen BK468.out 11; have hfz94_12 := blk_frozen BK468.out 12; have hcz95_0 : w93.cell? ⟨gb448, 0, none⟩ = some (.int .i64 x449000_2) := (blk_cell BK448.out 0).trans rfl; have hcz95_1 : w93.cell? ⟨gb448, 1, none⟩ = some (.int .i64 x449001_2) := (blk_cell BK448.out 1).trans rfl; have hcz95_2 : w93.cell? ⟨gb448, 2, none⟩ = some (.int .i64 x449002_2) := (blk_cell BK448.out 2).trans rfl; have hcz95_3 : w93.cell? ⟨gb448, 3, none⟩ = some (.int .i64 x449003_2) := (blk_cell BK448.out 3).trans rfl; have hcz95_4 : w93.cell? ⟨gb448, 4, none⟩ = some (.int .i64 x449004_2) := (blk_cell BK448.out 4).trans rfl; have hcz95_5 : w93.cell? ⟨gb448, 5, none⟩ = some (.int .i64 x449005_2) := (blk_cell BK448.out 5).trans rfl; have hcz95_6 : w93.cell? ⟨gb448, 6, none⟩ = some (.int .i64 x449006_2) := (blk_cell BK448.out 6).trans rfl; have hcz95_7 : w93.cell? ⟨gb448, 7, none⟩ = some (.int .i64 x449007_2) := (blk_cell BK448.out 7).trans rfl; have hcz95_8 : w93.cell? ⟨gb448, 8, none⟩ = some (.int .i64 x449008_2) := (blk_cell BK448.out 8).trans rfl; have hcz95_9 : w93.cell? ⟨gb448, 9, none⟩ = some (.int .i64 x449009_2) := (blk_cell BK448.out 9).trans rfl; have hcz95_10 : w93.cell? ⟨gb448, 10, none⟩ = some (.string x449010_2) := (blk_cell BK448.out 10).trans rfl; have hcz95_11 : w93.cell? ⟨gb448, 11, none⟩ = some (.int .i64 x449011_2) := (blk_cell BK448.out 11).trans rfl; have hcz95_12 : w93.cell? ⟨gb448, 12, none⟩ = some (.slice Ao16 x449012_2.length co16) := (blk_cell BK448.out 12).trans rfl; have hfz95_0 := blk_frozen BK448.out 0; have hfz95_1 := blk_frozen BK448.out 1; have hfz95_2 := blk_frozen BK448.out 2; have hfz95_3 := blk_frozen BK448.out 3; have hfz95_4 := blk_frozen BK448.out 4; have hfz95_5 := blk_frozen BK448.out 5; have hfz95_6 := blk_frozen BK448.out 6; have hfz95_7 := blk_frozen BK448.out 7; have hfz95_8 := blk_frozen BK448.out 8; have hfz95_9 := blk_frozen BK448.out 9; have hfz95_10 := blk_frozen BK448.out 10; have hfz95_11 := blk_frozen BK448.out 11; have hfz95_12 := blk_frozen BK448.out 12))
                            go_roundg kj13
                            case measure => have := HJ2.out; have := HK2.out; have := HJ13.out; omega
                            case rel => exact ⟨(wrap64 (x5_2 + 1)), (t452), (t453), (t454), (t455), (t456), (t457), (t458), (t459), (t460), (t461), (t462), (t463), (t464), (.slice Ao33 t464.length co33), (by first | rfl | (simp; done) | (simp [*]; done)), H', ⟨by have := HJ2.out; have := HK2.out; have := HJ13.out; omega⟩, ⟨by (with_reducible repeat (first | apply Kd.R_alloc | apply Kd.R_drewN | apply Kd.R_drew)); exact Kd.R_mono (Kd.R_far13 (g := gb448) (Kd.R_types HO_469012.out BK448.out (by decide)) (fun _ hk => hk.2)) (fun _ hk => trivial)⟩, ⟨by (with_reducible repeat (first | refine blk_drewN ?_ _ | refine blk_drew ?_ | refine blk_alloc ?_ _)); refine blk_put13 (cs := #[.int .i64 x449000_2, .int .i64 x449001_2, .int .i64 x449002_2, .int .i64 x449003_2, .int .i64 x449004_2, .int .i64 x449005_2, .int .i64 x449006_2, .int .i64 x449007_2, .int .i64 x449008_2, .int .i64 x449009_2, .string x449010_2, .int .i64 x449011_2, .slice Ao16 x449012_2.length co16]) ?_ rfl; (with_reducible repeat (first | refine blk_drewN ?_ _ | refine blk_drew ?_ | refine blk_alloc ?_ _)); exact BK448.out⟩, ⟨by repeat (first | (with_reducible first | exact HB.out | apply below_alloc | apply pw_below_drewN | apply below_drew1 | refine below_set ?_ GE448.out | refine below_set ?_ GE468.out) | exact HB.out)⟩⟩
                          · replace c89 := Bool.eq_false_iff.mpr c89
                            subst c89
                            have H1 : (some false) = some r := by rw [if_neg (show ¬ (false = true) by decide)] at H; exact H
                            clear H
                            have H := H1
                            clear H1
                            exact absurd (Option.some.inj H) (by rw [HRT.out]; decide)
                        · rw [if_neg c87] at H
                          have c87b0 : (x449000_2 == 3) = false := beq_eq_false_iff_ne.mpr c87
                          have c87b1 : (x449000_2 != 3) = true := bne_iff_ne.mpr c87
                          have H' := Aside0.mk H
                          clear H
                          have hnb96 := NB448_468.out
                          have hnc96 := NB468_448.out
                          have hcz97_0 : wc.cell? ⟨gb448, 0, none⟩ = some (.int .i64 x449000_2) := (blk_cell BK448.out 0).trans rfl
                          have hcz97_1 : wc.cell? ⟨gb448, 1, none⟩ = some (.int .i64 x449001_2) := (blk_cell BK448.out 1).trans rfl
                          have hcz97_2 : wc.cell? ⟨gb448, 2, none⟩ = some (.int .i64 x449002_2) := (blk_cell BK448.out 2).trans rfl
                          have hcz97_3 : wc.cell? ⟨gb448, 3, none⟩ = some (.int .i64 x449003_2) := (blk_cell BK448.out 3).trans rfl
                          have hcz97_4 : wc.cell? ⟨gb448, 4, none⟩ = some (.int .i64 x449004_2) := (blk_cell BK448.out 4).trans rfl
                          have hcz97_5 : wc.cell? ⟨gb448, 5, none⟩ = some (.int .i64 x449005_2) := (blk_cell BK448.out 5).trans rfl
                          have hcz97_6 : wc.cell? ⟨gb448, 6, none⟩ = some (.int .i64 x449006_2) := (blk_cell BK448.out 6).trans rfl
                          have hcz97_7 : wc.cell? ⟨gb448, 7, none⟩ = some (.int .i64 x449007_2) := (blk_cell BK448.out 7).trans rfl
                          have hcz97_8 : wc.cell? ⟨gb448, 8, none⟩ = some (.int .i64 x449008_2) := (blk_cell BK448.out 8).trans rfl
                          have hcz97_9 : wc.cell? ⟨gb448, 9, none⟩ = some (.int .i64 x449009_2) := (blk_cell BK448.out 9).trans rfl
                          have hcz97_10 : wc.cell? ⟨gb448, 10, none⟩ = some (.string x449010_2) := (blk_cell BK448.out 10).trans rfl
                          have hcz97_11 : wc.cell? ⟨gb448, 11, none⟩ = some (.int .i64 x449011_2) := (blk_cell BK448.out 11).trans rfl
                          have hcz97_12 : wc.cell? ⟨gb448, 12, none⟩ = some (.slice Ao16 x449012_2.length co16) := (blk_cell BK448.out 12).trans rfl
                          have hfz97_0 := blk_frozen BK448.out 0
                          have hfz97_1 := blk_frozen BK448.out 1
                          have hfz97_2 := blk_frozen BK448.out 2
                          have hfz97_3 := blk_frozen BK448.out 3
                          have hfz97_4 := blk_frozen BK448.out 4
                          have hfz97_5 := blk_frozen BK448.out 5
                          have hfz97_6 := blk_frozen BK448.out 6
                          have hfz97_7 := blk_frozen BK448.out 7
                          have hfz97_8 := blk_frozen BK448.out 8
                          have hfz97_9 := blk_frozen BK448.out 9
                          have hfz97_10 := blk_frozen BK448.out 10
                          have hfz97_11 := blk_frozen BK448.out 11
                          have hfz97_12 := blk_frozen BK448.out 12
                          have hcz98_0 : wc.cell? ⟨gb468, 0, none⟩ = some (.int .i64 t452) := (blk_cell BK468.out 0).trans rfl
                          have hcz98_1 : wc.cell? ⟨gb468, 1, none⟩ = some (.int .i64 t453) := (blk_cell BK468.out 1).trans rfl
                          have hcz98_2 : wc.cell? ⟨gb468, 2, none⟩ = some (.int .i64 t454) := (blk_cell BK468.out 2).trans rfl
                          have hcz98_3 : wc.cell? ⟨gb468, 3, none⟩ = some (.int .i64 t455) := (blk_cell BK468.out 3).trans rfl
                          have hcz98_4 : wc.cell? ⟨gb468, 4, none⟩ = some (.int .i64 t456) := (blk_cell BK468.out 4).trans rfl
                          have hcz98_5 : wc.cell? ⟨gb468, 5, none⟩ = some (.int .i64 t457) := (blk_cell BK468.out 5).trans rfl
                          have hcz98_6 : wc.cell? ⟨gb468, 6, none⟩ = some (.int .i64 t458) := (blk_cell BK468.out 6).trans rfl
                          have hcz98_7 : wc.cell? ⟨gb468, 7, none⟩ = some (.int .i64 t459) := (blk_cell BK468.out 7).trans rfl
                          have hcz98_8 : wc.cell? ⟨gb468, 8, none⟩ = some (.int .i64 t460) := (blk_cell BK468.out 8).trans rfl
                          have hcz98_9 : wc.cell? ⟨gb468, 9, none⟩ = some (.int .i64 t461) := (blk_cell BK468.out 9).trans rfl
                          have hcz98_10 : wc.cell? ⟨gb468, 10, none⟩ = some (.string t462) := (blk_cell BK468.out 10).trans rfl
                          have hcz98_11 : wc.cell? ⟨gb468, 11, none⟩ = some (.int .i64 t463) := (blk_cell BK468.out 11).trans rfl
                          have hcz98_12 : wc.cell? ⟨gb468, 12, none⟩ = some (.slice Ao33 t464.length co33) := (blk_cell BK468.out 12).trans rfl
                          have hfz98_0 := blk_frozen BK468.out 0
                          have hfz98_1 := blk_frozen BK468.out 1
                          have hfz98_2 := blk_frozen BK468.out 2
                          have hfz98_3 := blk_frozen BK468.out 3
                          have hfz98_4 := blk_frozen BK468.out 4
                          have hfz98_5 := blk_frozen BK468.out 5
                          have hfz98_6 := blk_frozen BK468.out 6
                          have hfz98_7 := blk_frozen BK468.out 7
                          have hfz98_8 := blk_frozen BK468.out 8
                          have hfz98_9 := blk_frozen BK468.out 9
                          have hfz98_10 := blk_frozen BK468.out 10
                          have hfz98_11 := blk_frozen BK468.out 11
                          have hfz98_12 := blk_frozen BK468.out 12
                          go_wp2
                          go_roundg kj13
                          case measure => have := HJ2.out; have := HK2.out; have := HJ13.out; omega
                          case rel => exact ⟨(wrap64 (x5_2 + 1)), (t452), (t453), (t454), (t455), (t456), (t457), (t458), (t459), (t460), (t461), (t462), (t463), (t464), (.slice Ao33 t464.length co33), (by first | rfl | (simp; done) | (simp [*]; done)), H', ⟨by have := HJ2.out; have := HK2.out; have := HJ13.out; omega⟩, ⟨by (with_reducible repeat (first | apply Kd.R_alloc | apply Kd.R_drewN | apply Kd.R_drew)); exact Kd.R_mono (Kd.R_far13 (g := gb448) (Kd.R_types HO_469012.out BK448.out (by decide)) (fun _ hk => hk.2)) (fun _ hk => trivial)⟩, ⟨by (with_reducible repeat (first | refine blk_drewN ?_ _ | refine blk_drew ?_ | refine blk_alloc ?_ _)); refine blk_put13 (cs := #[.int .i64 x449000_2, .int .i64 x449001_2, .int .i64 x449002_2, .int .i64 x449003_2, .int .i64 x449004_2, .int .i64 x449005_2, .int .i64 x449006_2, .int .i64 x449007_2, .int .i64 x449008_2, .int .i64 x449009_2, .string x449010_2, .int .i64 x449011_2, .slice Ao16 x449012_2.length co16]) ?_ rfl; (with_reducible repeat (first | refine blk_drewN ?_ _ | refine blk_drew ?_ | refine blk_alloc ?_ _)); exact BK448.out⟩, ⟨by repeat (first | (with_reducible first | exact HB.out | apply below_alloc | apply pw_below_drewN | apply below_drew1 | refine below_set ?_ GE448.out | refine below_set ?_ GE468.out) | exact HB.out)⟩⟩
                · replace c12 := Bool.eq_false_iff.mpr c12
                  subst c12
                  have H1 : (some true) = some r := by rw [if_neg (show ¬ (false = true) by decide)] at H; exact H
                  clear H
                  have H := H1
                  clear H1
                  obtain rfl := Option.some.inj H
                  have p449 : 0 ≤ (x5_2 : Int) := of_decide_eq_true (by first | (with_reducible assumption) | assumption)
                  have q449 : x5_2 < (l0.length : Int) := of_decide_eq_true (by first | (with_reducible assumption) | assumption)
                  obtain ⟨ad449, A449_10, c449_10, e449, hx449_0, hx449_1, hx449_2, hx449_3, hx449_4, hx449_5, hx449_6, hx449_7, hx449_8, hx449_9, hx449_10, hl449_10, hi449_10⟩ := at_T35 HR0.out x5_2 p449 q449
                  cases e449
                  replace hx449_0 := (HB.out.cell (World.block_lt_of_cell? w _ hx449_0)).trans hx449_0
                  replace hx449_1 := (HB.out.cell (World.block_lt_of_cell? w _ hx449_1)).trans hx449_1
                  replace hx449_2 := (HB.out.cell (World.block_lt_of_cell? w _ hx449_2)).trans hx449_2
                  replace hx449_3 := (HB.out.cell (World.block_lt_of_cell? w _ hx449_3)).trans hx449_3
                  replace hx449_4 := (HB.out.cell (World.block_lt_of_cell? w _ hx449_4)).trans hx449_4
                  replace hx449_5 := (HB.out.cell (World.block_lt_of_cell? w _ hx449_5)).trans hx449_5
                  replace hx449_6 := (HB.out.cell (World.block_lt_of_cell? w _ hx449_6)).trans hx449_6
                  replace hx449_7 := (HB.out.cell (World.block_lt_of_cell? w _ hx449_7)).trans hx449_7
                  replace hx449_8 := (HB.out.cell (World.block_lt_of_cell? w _ hx449_8)).trans hx449_8
                  replace hx449_9 := (HB.out.cell (World.block_lt_of_cell? w _ hx449_9)).trans hx449_9
                  replace hx449_10 := (HB.out.cell (World.block_lt_of_cell? w _ hx449_10)).trans hx449_10
                  have HR449_10 := Aside0.mk hi449_10
                  have HC449_10 := Aside0.mk hl449_10
                  clear hi449_10 hl449_10
                  replace p449 := eq_true p449
                  replace q449 := eq_true q449
                  go_wp2_with (first | ((with_reducible refine gate_callee (f := 9) rfl ?_); refine goesL_ (some 30) rfl rfl Try.func9 (by kernel_rfl) rfl #[.agg #[.int .i64 ((rd_T35 l0 x5_2).f3.f0), .slice A449_10 ((rd_T35 l0 x5_2).f3.f1).length c449_10]] rfl (by (try simp only [List.map_toArray, List.map_cons, List.map_nil]); first | done | rfl | (simp only [List.length_drop, List.length_take]; rfl)) ?_; (with_reducible refine (colloquylaw06_Few.calls ((rd_T35 l0 x5_2).f3.f0) _ _ ((rd_T35 l0 x5_2).f3.f1) false _ ?side1 ?side2 A11.out).mono ?_); (case side1 => repeat (first | exact (Kd.C_below HR449_10.out HB.out) | (with_reducible refine Kd.C_alloc ?_ _) | (with_reducible refine Kd.C_drewN ?_ _) | (with_reducible refine Kd.C_drew ?_))); (case side2 => exact HC449_10.out); rintro e w99 ⟨rfl, hb⟩; refine ⟨_, rfl, ?_⟩; have n0_ := Aside0.mk (Kd.R_below (by (with_reducible repeat (first | apply Kd.R_alloc | apply Kd.R_drewN | apply Kd.R_drew)); exact HO_449012.out) hb); have n1_ := Aside0.mk (blk_below (g := gb448) (by (with_reducible repeat (first | refine blk_drewN ?_ _ | refine blk_drew ?_ | refine blk_alloc ?_ _)); exact BK448.out) hb); have n2_ := Aside0.mk (below_step (by repeat (first | (with_reducible first | exact HB.out | apply below_alloc | apply pw_below_drewN | apply below_drew1 | refine below_set ?_ GE448.out) | exact HB.out)) hb); clear HO_449012; clear BK448; clear HB; have HO_449012 := n0_; have BK448 := n1_; have HB := n2_; clear n0_ n1_ n2_; (try clear hb); (try clear hb2); (try clear hk); (try clear hi)))
                  go_ret
                  exact ⟨by first | rfl | (simp [errW_none, errW_some] <;> rfl) | (simp [*, errW_none, errW_some] <;> rfl), by repeat (first | (with_reducible first | exact HB.out | apply below_alloc | apply pw_below_drewN | apply below_drew1 | refine below_set ?_ GE448.out) | exact HB.out)⟩
              · rw [if_neg c10] at H
                exact absurd H (by simp)
            · rw [if_neg c9] at H
              have c9b0 : decide (x5_2 < (l0.length : Int)) = false := decide_eq_false c9
              clear c9
              obtain rfl := Option.some.inj H
              go_wp2
              go_ret
              exact ⟨by first | rfl | (simp [errW_none, errW_some] <;> rfl) | (simp [*, errW_none, errW_some] <;> rfl), by repeat (first | (with_reducible first | exact HB.out | apply below_alloc | apply pw_below_drewN | apply below_drew1 | refine below_set ?_ GE448.out) | exact HB.out)⟩

end Go.Proofs.Ytkijkdifmoifaaa.P
