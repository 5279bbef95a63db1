/- Plain Lean functions and their contracts over the translation, written by a program of this session (myprint.py, over the kit's print); no condition but each contract's own. -/
import Derived.Test.YtgenfbpaooeofaaPx0
import Derived.Test.YtgenfbpaooeofaaPx1
import Derived.Test.YtgenfbpaooeofaaPx4
import Derived.Test.YtgenfbpaooeofaaPx5
namespace Go.Proofs.Ytgenfbpaooeofaa.P
open Go.RowKit Go.Proofs.YtgenfbpaooeofaaW.PrintWords Go.Proofs.YtgenfbpaooeofaaW.PrintLast Go.Proofs.YtgenfbpaooeofaaW.PrintMore
attribute [local go_sem] max2_int min2_int max_two min_two max_three min_three max_four min_four   -- for this text's walks alone
set_option linter.unusedVariables false
set_option linter.unusedSimpArgs false

attribute [local go_sem high] eqA24
-- NOT PRINTED: function 13 (index_New)

-- NOT PRINTED: function 26 (index_Index_may)

-- NOT PRINTED: function 44 (command_kinds)

-- NOT PRINTED: function 14 (index_Index_Put)

-- NOT PRINTED: function 16 (index_Index_Attr)

-- NOT PRINTED: function 17 (index_Index_Len)

-- making: yes
def colloquylaw08_awake.f : Option Bool := some true
def interB (x y : S24) : Bool := (keysOf x.f0 x.f1 x.f2 x.f3 x.f4 x.f5).any fun k => (keysOf y.f0 y.f1 y.f2 y.f3 y.f4 y.f5).any fun q => meetB k q
def knA : S29 := ⟨⟨2, 1⟩, ⟨1, 1, 4, 3, 0, ⟨#[120]⟩⟩, 4⟩
def cmA : S24 := ⟨2, 1, 7, 3, 1, ⟨#[]⟩⟩
def inA : S26 := ⟨1, 1⟩
theorem awakeOf : ofP 3 [knA] cmA inA = (5, [0, 1, 0]) := by decide +kernel
theorem awakeAttr : attrP 3 (putP 3 [] (fun _ => []) knA).2 cmA inA = (5, [0, 1, 0]) := by decide +kernel
theorem awakeLen : (putP 3 [] (fun _ => []) knA).1.length = 1 := by decide +kernel
set_option maxHeartbeats 8000000 in
set_option maxRecDepth 100000 in
theorem colloquylaw08_awake.calls  (r : Bool) (w : World) (h : colloquylaw08_awake.f  = some r) :
    Calls Try.prog 9 #[] w fun e w' => e = .returned (.bool r) ∧ Below w.heap.size w w' := by
  obtain rfl : true = r := Option.some.inj h
  clear h
  obtain ⟨M1, M2, M3, HSZ, HB⟩ := three w (.cells #[.int .i64 1, .int .i64 1, .int .i64 4, .int .i64 3, .int .i64 0, .string ⟨#[120]⟩] 24) (.cells #[.int .i64 2, .int .i64 1, .int .i64 7, .int .i64 3, .int .i64 1, .string ⟨#[]⟩] 24) (.cells #[.int .i64 2, .int .i64 1, .int .i64 1, .int .i64 1, .int .i64 4, .int .i64 3, .int .i64 0, .string ⟨#[120]⟩, .int .i64 4] 29)
  go_enter Try.func9, Try.ntmps9
  go_wp2_with (first | ((with_reducible refine gate_dst (N := 13) rfl ?_); refine Kd.R_lit k29 _ 29 ?hg (N := 13) ?hd (xs := [knA]) (inner := [.int .i64 2, .int .i64 1, .int .i64 1, .int .i64 1, .int .i64 4, .int .i64 3, .int .i64 0, .string ⟨#[120]⟩, .int .i64 4]) (ok := fun _ => True) (okp := fun _ => True) ?hr ?hp (fun _ hk => hk) trivial (Below.refl _ _) (Nat.le_refl _) (by simp) ?_; (case hd => rfl); (case hg => rfl); (case hr => first | (go_simp; done) | (go_simp; rfl)); (case hp => exact Reps.front (show Kd.M k29 _ _ _ knA [.int .i64 2, .int .i64 1, .int .i64 1, .int .i64 1, .int .i64 4, .int .i64 3, .int .i64 0, .string ⟨#[120]⟩, .int .i64 4] from k29_mkM _ _ _ knA) rfl (Reps.none _ _) rfl); intro v13 w13 hR13 hb13 hg_ hn_; clear hg_ hn_; obtain ⟨A13, c13, rfl, hc13, hC13⟩ := Kd.R_reads hR13; clear hR13; have L2 := (hb13.block _ (blk_lt M2.out)).trans M2.out; have L3 := (hb13.block _ (blk_lt M3.out)).trans M3.out; have hs13 := hb13.size; have hsz13 := HSZ.out; have HB13 := Aside0.mk (below_step HB.out hb13); clear hb13 M1 M2 M3 HB HSZ; have y0 := blk_cell L2 0; have y1 := blk_cell L2 1; have y2 := blk_cell L2 2; have y3 := blk_cell L2 3; have y4 := blk_cell L2 4; have y5 := blk_cell L2 5; simp only [List.getElem?_toArray, List.getElem?_cons_zero, List.getElem?_cons_succ] at y0 y1 y2 y3 y4 y5; have HL2 := Aside0.mk L2; have HL3 := Aside0.mk L3; clear L2 L3))
  clear y0 y1 y2 y3 y4 y5
  refine (index_Of.calls A13 c13 [knA] 2 1 7 3 1 ⟨#[]⟩ 1 1 3 5 [0, 1, 0] w13 hC13 hc13 (congrArg some awakeOf)).mono ?_
  rintro e w1 ⟨v1, rfl, hR1, hb1⟩
  obtain ⟨g1, cap1, rfl, hg1a, hg1b, cs1, hcs1⟩ := Kd.R_form hR1 (by simp)
  clear hg1a hg1b hcs1 cs1
  have HW1 := Aside0.mk (below_step HB13.out hb1)
  have HL2b := Aside0.mk ((hb1.block _ (blk_lt HL2.out)).trans HL2.out)
  have HL3b := Aside0.mk ((hb1.block _ (blk_lt HL3.out)).trans HL3.out)
  clear hb1 HB13 HL2 HL3
  go_wp2_with fail
  have hn4 := heap_alloc_new w1 (.cells #[.int .i64 5, .slice (some ⟨g1, 0, none⟩) 3 cap1] 32)
  have hb4 := below_alloc (Below.refl w1.heap.size w1) (.cells #[.int .i64 5, .slice (some ⟨g1, 0, none⟩) 3 cap1] 32)
  have hR4 := Kd.R_below hR1 hb4
  have hW4 := below_step HW1.out hb4
  have L2c := (hb4.block _ (blk_lt HL2b.out)).trans HL2b.out
  have L3c := (hb4.block _ (blk_lt HL3b.out)).trans HL3b.out
  obtain ⟨ga, hga⟩ : ∃ ga, w1.heap.size = ga := ⟨_, rfl⟩
  rw [hga] at hn4 ⊢
  generalize w1.alloc (.cells #[.int .i64 5, .slice (some ⟨g1, 0, none⟩) 3 cap1] 32) = Z at hn4 hR4 hW4 L2c L3c ⊢
  clear hb4 hR1 HW1 HL2b HL3b hga
  refine (index_New.calls 3 Z).mono ?_
  rintro e wN ⟨gx, own, rfl, hIX, hown, hbN⟩
  have HI := Aside0.mk hIX
  have HO : Aside0 (∀ i, own i → Z.heap.size ≤ i) := ⟨hown⟩
  have HZN := Aside0.mk hbN
  have x0 := blk_cell ((hbN.block _ (blk_lt L3c)).trans L3c) 0
  have x1 := blk_cell ((hbN.block _ (blk_lt L3c)).trans L3c) 1
  have x2 := blk_cell ((hbN.block _ (blk_lt L3c)).trans L3c) 2
  have x3 := blk_cell ((hbN.block _ (blk_lt L3c)).trans L3c) 3
  have x4 := blk_cell ((hbN.block _ (blk_lt L3c)).trans L3c) 4
  have x5 := blk_cell ((hbN.block _ (blk_lt L3c)).trans L3c) 5
  have x6 := blk_cell ((hbN.block _ (blk_lt L3c)).trans L3c) 6
  have x7 := blk_cell ((hbN.block _ (blk_lt L3c)).trans L3c) 7
  have x8 := blk_cell ((hbN.block _ (blk_lt L3c)).trans L3c) 8
  simp only [List.getElem?_toArray, List.getElem?_cons_zero, List.getElem?_cons_succ] at x0 x1 x2 x3 x4 x5 x6 x7 x8
  have HL2 := Aside0.mk L2c
  have HL3 := Aside0.mk L3c
  have HN4 := Aside0.mk hn4
  have HR4 := Aside0.mk hR4
  have HW4 := Aside0.mk hW4
  clear hIX hown hbN L2c L3c hn4 hR4 hW4
  go_wp2_with fail
  clear x0 x1 x2 x3 x4 x5 x6 x7 x8
  refine (index_Put.calls gx own (bnd 3) [] (fun _ => []) knA wN HI.out).mono ?_
  rintro e wP ⟨rfl, own', hIP, ho1, ho2, hKP⟩
  have hZP : Below Z.heap.size Z wP := HZN.out.trans (hKP.below HZN.out.size HO.out)
  have L2d := (hZP.block _ (blk_lt HL2.out)).trans HL2.out
  have y0 := blk_cell L2d 0
  have y1 := blk_cell L2d 1
  have y2 := blk_cell L2d 2
  have y3 := blk_cell L2d 3
  have y4 := blk_cell L2d 4
  have y5 := blk_cell L2d 5
  simp only [List.getElem?_toArray, List.getElem?_cons_zero, List.getElem?_cons_succ] at y0 y1 y2 y3 y4 y5
  have HI2 := Aside0.mk hIP
  have HZP := Aside0.mk hZP
  clear hIP ho1 ho2 hKP hZP L2d HI HO HZN
  go_wp2_with fail
  clear y0 y1 y2 y3 y4 y5
  refine (index_Attr.calls gx own' (bnd 3) _ _ cmA inA wP HI2.out (bnd_in 3) (GB.putP (GB.nil _) knA)).mono ?_
  rintro e wT ⟨vB, rfl, hRB, hbT⟩
  have e1 : attrP (bnd 3) (putP (bnd 3) [] (fun _ => []) knA).2 cmA inA = (5, [0, 1, 0]) := awakeAttr
  rw [e1] at hRB ⊢
  clear e1
  obtain ⟨gB, capB, rfl, hg1a, hg1b, cs1, hcs1⟩ := Kd.R_form hRB (by simp)
  clear hg1a hg1b hcs1 cs1
  have hb6 := below_alloc (Below.refl wT.heap.size wT) (.cells #[.int .i64 5, .slice (some ⟨gB, 0, none⟩) 3 capB] 32)
  have hZT := below_step (below_step HZP.out hbT) hb6
  have h4 := (hZT.block _ (blk_lt HN4.out)).trans HN4.out
  have hR6 := Kd.R_below HR4.out hZT
  have f0 := blk_cell h4 0
  have f1 := blk_cell h4 1
  simp only [List.getElem?_toArray, List.getElem?_cons_zero, List.getElem?_cons_succ] at f0 f1
  have f2 : (wT.alloc (.cells #[.int .i64 5, .slice (some ⟨gB, 0, none⟩) 3 capB] 32)).cell? ⟨g1, 1, none⟩ = some (.int .i64 1) := (Kd.R_celln 0 hR6 1 (by decide) (by decide)).1
  have HI6 := Aside0.mk (HI2.out.below (below_step hbT hb6))
  have HW6 := Aside0.mk (below_step HW4.out hZT)
  clear hb6 hZT h4 hR6 hbT hRB HI2 HZP HN4 HR4 HL2 HL3 HW4
  go_wp2_with fail
  refine (index_Len.calls gx own' (bnd 3) _ _ _ HI6.out).mono ?_
  rintro e w9 ⟨rfl, rfl⟩
  have hl : (putP (bnd 3) [] (fun _ => []) knA).1.length = 1 := awakeLen
  rw [hl]
  clear hl HI6
  go_wp2_with fail
  go_ret
  exact ⟨rfl, HW6.out⟩

def colloquyref08_bound.f (a0 : Int) : Option (Int) := if a0 < 1 then (some 1) else (if a0 > 7 then (some 7) else (some a0))
def colloquyref08_may.f (a0_0 : Int) (a0_1 : Int) (a1 : Int) : Option (Bool) := if a0_0 ≥ 1 then (if a0_0 ≤ a1 then (if a0_1 ≥ 1 then (some (decide (a0_1 ≤ 1048576))) else (some false)) else (some false)) else (some false)
def colloquyref04_in.f (a0 : Int) (a1 : Int) : Option (Bool) := if a0 ≥ 1 then (some (decide (a0 ≤ a1))) else (some false)
def colloquyref04_numbered.f (a0 : Int) : Option (Bool) := if a0 = 5 then (some true) else (if a0 = 6 then (some true) else (some (a0 == 7)))
def colloquyref04_worded.f (a0 : Int) : Option (Bool) := if a0 = 4 then (some true) else (some (a0 == 5))
def colloquyref04_May.j0 : Nat → Bool → Int → Int → Int → Int → Int → ByteArray → Option (Bool)
 | 0, _, _, _, _, _, _, _ => none
 | k + 1, x23, x131000, x131001, x131002, x131003, x131004, x131005 => if x23 = true then (some false) else ((colloquyref04_in.f x131000 1048576).bind fun t131 => ((colloquyref04_in.f x131001 1073741824).bind fun t132 => ((colloquyref04_in.f x131003 1048576).bind fun t133 => ((colloquyref04_numbered.f x131002).bind fun t134 => ((colloquyref04_in.f x131004 1073741824).bind fun t135 => ((colloquyref04_worded.f x131002).bind fun t136 => ((colloquyref04_in.f (x131005.size : Int) 64).bind fun t137 => (if t131 = true then (if t132 = true then (if t133 = true then (if t134 = true then (if t135 = true then (if t136 = true then (if t137 = true then (some true) else (some false)) else (some ((x131005.size : Int) == 0))) else (some false)) else (if x131004 = 0 then (if t136 = true then (if t137 = true then (some true) else (some false)) else (some ((x131005.size : Int) == 0))) else (some false))) else (some false)) else (some false)) else (some false)))))))))
def colloquyref04_May.f (k : Nat) (a0_0 : Int) (a0_1 : Int) (a0_2 : Int) (a0_3 : Int) (a0_4 : Int) (a0_5 : ByteArray) : Option (Bool) := if a0_2 = 0 then (some (a0_0 == 0 && (a0_1 == 0 && (a0_2 == 0 && (a0_3 == 0 && (a0_4 == 0 && (a0_5.toList == ([] : List UInt8)))))))) else (if a0_2 < 0 then (colloquyref04_May.j0 k true a0_0 a0_1 a0_2 a0_3 a0_4 a0_5) else (colloquyref04_May.j0 k (decide (a0_2 ≥ 8)) a0_0 a0_1 a0_2 a0_3 a0_4 a0_5))
def colloquyref04_Reads.f (a0_0 : Int) (a0_1 : Int) (a0_2 : Int) (a0_3 : Int) (a0_4 : Int) (a0_5 : ByteArray) : Option (Bool) := if a0_2 = 7 then (some true) else (some (a0_2 == 0))
end Go.Proofs.Ytgenfbpaooeofaa.P
