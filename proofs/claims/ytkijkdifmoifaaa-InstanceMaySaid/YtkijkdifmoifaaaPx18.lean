/- Plain Lean functions and their contracts over the translation, written by a program of this session (myprint.py, over the kit's print); no condition but each contract's own. -/
import Derived.Test.YtkijkdifmoifaaaPx0
import Derived.Test.YtkijkdifmoifaaaPx5
import Derived.Test.YtkijkdifmoifaaaPx6
import Derived.Test.YtkijkdifmoifaaaPx8
import Derived.Test.YtkijkdifmoifaaaPx14
namespace Go.Proofs.Ytkijkdifmoifaaa.P
open Go.RowKit Go.Proofs.YtkijkdifmoifaaaW.PrintWords Go.Proofs.YtkijkdifmoifaaaW.PrintLast Go.Proofs.YtkijkdifmoifaaaW.PrintMore
attribute [local go_sem] max2_int min2_int max_two min_two max_three min_three max_four min_four   -- for this text's walks alone
set_option linter.unusedVariables false
set_option linter.unusedSimpArgs false

abbrev colloquylaw09_InstanceMay.m0 : Array Bool := #[false, false, false, false, false, false, false, false, false, false, false, false, false, false, false, false, false, false]
abbrev colloquylaw09_InstanceMay.m1 : Array Bool := #[false, true, false, false, false, false, false, false, false, false, false, false, false, false, false, false, false, false]
abbrev colloquylaw09_InstanceMay.m2 : Array Bool := #[true, true, false, false, false, false, false, false, false, false, false, false, false, false, false, false, false, false]
abbrev colloquylaw09_InstanceMay.m3 : Array Bool := #[true, true, true, false, false, false, false, false, false, false, false, false, false, false, false, false, false, false]
abbrev colloquylaw09_InstanceMay.m4 : Array Bool := #[true, true, true, true, false, false, false, false, false, false, false, false, false, false, false, false, false, false]
abbrev colloquylaw09_InstanceMay.m5 : Array Bool := #[true, true, true, true, true, false, false, false, false, false, false, false, false, false, false, false, false, false]
abbrev colloquylaw09_InstanceMay.m6 : Array Bool := #[true, true, true, true, true, true, false, false, false, false, false, false, false, false, false, false, false, false]
abbrev colloquylaw09_InstanceMay.m7 : Array Bool := #[true, true, true, true, true, true, true, false, false, false, false, false, false, false, false, false, false, false]
abbrev colloquylaw09_InstanceMay.m8 : Array Bool := #[true, true, true, true, true, true, true, true, false, false, false, false, false, false, false, false, false, false]
abbrev colloquylaw09_InstanceMay.m9 : Array Bool := #[true, true, true, true, true, true, true, true, true, false, false, false, false, false, false, false, false, false]
abbrev colloquylaw09_InstanceMay.m10 : Array Bool := #[true, true, true, true, true, true, true, true, true, true, false, false, false, false, false, false, false, false]
abbrev colloquylaw09_InstanceMay.m11 : Array Bool := #[true, true, true, true, true, true, true, true, true, true, true, false, false, false, false, false, false, false]
abbrev colloquylaw09_InstanceMay.m12 : Array Bool := #[true, true, true, true, true, true, true, true, true, true, true, false, true, false, false, false, false, false]
abbrev colloquylaw09_InstanceMay.m13 : Array Bool := #[true, true, true, true, true, true, true, true, true, true, true, false, true, true, false, false, false, false]
abbrev colloquylaw09_InstanceMay.m14 : Array Bool := #[true, true, true, true, true, true, true, true, true, true, true, true, true, true, false, false, false, false]
abbrev colloquylaw09_InstanceMay.m15 : Array Bool := #[true, true, true, true, true, true, true, true, true, true, true, true, true, true, true, false, false, false]
abbrev colloquylaw09_InstanceMay.m16 : Array Bool := #[true, true, true, true, true, true, true, true, true, true, true, true, true, true, true, true, false, false]
abbrev colloquylaw09_InstanceMay.m17 : Array Bool := #[true, true, true, true, true, true, true, true, true, true, true, true, true, true, true, true, true, false]
abbrev colloquylaw09_InstanceMay.m18 : Array Bool := #[true, true, true, true, true, true, true, true, true, true, true, true, true, true, true, true, true, true]
def colloquylaw09_InstanceMay.j0 : Nat → Int → Bool → Bool → Int → Int → Int → Int → Int → Int → Int → Int → Int → Int → ByteArray → Int → List Int → Int → Int → Int → Int → Int → Int → Int → Int → ByteArray → Int → List Int → Option (Bool)
  | 0, _, _, _, _, _, _, _, _, _, _, _, _, _, _, _, _, _, _, _, _, _, _, _, _, _, _, _ => none
  | k + 1, x2, x7, x34, x742000, x742001, x742002, x742003, x742004, x742005, x742006, x742007, x742008, x742009, x742010, x742011, x742012, x743000, x743001, x743002, x743003, x743004, x743005, x743006, x743007, x743008, x743009, x743010 => if x34 = true then (some x7) else ((instance_May.f k 2 0 1 0 1 x743003 x743004 x743005 x743006 x743007 x743008 x743009 x743010 x2).bind fun t748 => (if t748 = true then ((colloquylaw09_does.f k x742000 x742001 x742002 x742003 x742004 x742005 x742006 x742007 x742008 x742009 x742010 x742011 x742012 x743000 x743001 x743002 x743003 x743004 x743005 x743006 x743007 x743008 x743009 x743010).bind fun bt749 => ((instance_May.f k bt749.1 bt749.2.1 bt749.2.2.1 bt749.2.2.2.1 bt749.2.2.2.2.1 bt749.2.2.2.2.2.1 bt749.2.2.2.2.2.2.1 bt749.2.2.2.2.2.2.2.1 bt749.2.2.2.2.2.2.2.2.1 bt749.2.2.2.2.2.2.2.2.2.1 bt749.2.2.2.2.2.2.2.2.2.2.1 bt749.2.2.2.2.2.2.2.2.2.2.2.1 bt749.2.2.2.2.2.2.2.2.2.2.2.2.1 x2).bind fun t766 => (if t766 = true then ((instance_Same.f bt749.1 bt749.2.1 bt749.2.2.1 bt749.2.2.2.1 bt749.2.2.2.2.1 bt749.2.2.2.2.2.1 bt749.2.2.2.2.2.2.1 bt749.2.2.2.2.2.2.2.1 bt749.2.2.2.2.2.2.2.2.1 bt749.2.2.2.2.2.2.2.2.2.1 bt749.2.2.2.2.2.2.2.2.2.2.1 bt749.2.2.2.2.2.2.2.2.2.2.2.1 bt749.2.2.2.2.2.2.2.2.2.2.2.2.1 bt749.1 bt749.2.1 bt749.2.2.1 bt749.2.2.2.1 bt749.2.2.2.2.1 bt749.2.2.2.2.2.1 bt749.2.2.2.2.2.2.1 bt749.2.2.2.2.2.2.2.1 bt749.2.2.2.2.2.2.2.2.1 bt749.2.2.2.2.2.2.2.2.2.1 bt749.2.2.2.2.2.2.2.2.2.2.1 bt749.2.2.2.2.2.2.2.2.2.2.2.1 bt749.2.2.2.2.2.2.2.2.2.2.2.2.1).bind fun t767 => (if t767 = true then ((instance_Same.f bt749.1 bt749.2.1 bt749.2.2.1 bt749.2.2.2.1 bt749.2.2.2.2.1 bt749.2.2.2.2.2.1 bt749.2.2.2.2.2.2.1 bt749.2.2.2.2.2.2.2.1 bt749.2.2.2.2.2.2.2.2.1 bt749.2.2.2.2.2.2.2.2.2.1 bt749.2.2.2.2.2.2.2.2.2.2.1 bt749.2.2.2.2.2.2.2.2.2.2.2.1 bt749.2.2.2.2.2.2.2.2.2.2.2.2.1 x742000 x742001 x742002 x742003 x742004 x742005 x742006 x742007 x742008 x742009 x742010 x742011 x742012).bind fun t768 => ((instance_Same.f x742000 x742001 x742002 x742003 x742004 x742005 x742006 x742007 x742008 x742009 x742010 x742011 x742012 bt749.1 bt749.2.1 bt749.2.2.1 bt749.2.2.2.1 bt749.2.2.2.2.1 bt749.2.2.2.2.2.1 bt749.2.2.2.2.2.2.1 bt749.2.2.2.2.2.2.2.1 bt749.2.2.2.2.2.2.2.2.1 bt749.2.2.2.2.2.2.2.2.2.1 bt749.2.2.2.2.2.2.2.2.2.2.1 bt749.2.2.2.2.2.2.2.2.2.2.2.1 bt749.2.2.2.2.2.2.2.2.2.2.2.2.1).bind fun t769 => (some (t768 == t769)))) else (some false))) else (some false)))) else (some true)))
def colloquylaw09_InstanceMay.f (k : Nat) (a0_0 : Int) (a0_1 : Int) (a0_2 : Int) (a0_3 : Int) (a0_4 : Int) (a0_5 : Int) (a0_6 : Int) (a0_7 : Int) (a0_8 : Int) (a0_9 : Int) (a0_10 : ByteArray) (a0_11 : Int) (l0_12 : List Int) (a1_0 : Int) (a1_1 : Int) (a1_2 : Int) (a1_3 : Int) (a1_4 : Int) (a1_5 : Int) (a1_6 : Int) (a1_7 : Int) (a1_8 : ByteArray) (a1_9 : Int) (l1_10 : List Int) (a2 : Int) : Option (Bool) := (colloquylaw09_awake.f).bind fun t743 => ((colloquylaw09_Few.f a0_0 a0_1 a0_2 a0_3 a0_4 a0_5 a0_6 a0_7 a0_8 a0_9 a0_10 a0_11 l0_12).bind fun t744 => ((colloquylaw06_Few.f a1_9 l1_10).bind fun t745 => (if t743 = true then (if t744 = true then (if t745 = true then ((instance_May.f k a0_0 a0_1 a0_2 a0_3 a0_4 a0_5 a0_6 a0_7 a0_8 a0_9 a0_10 a0_11 l0_12 a2).bind fun t746 => (colloquylaw09_InstanceMay.j0 k a2 t743 (!t746) a0_0 a0_1 a0_2 a0_3 a0_4 a0_5 a0_6 a0_7 a0_8 a0_9 a0_10 a0_11 l0_12 a1_0 a1_1 a1_2 a1_3 a1_4 a1_5 a1_6 a1_7 a1_8 a1_9 l1_10)) else (colloquylaw09_InstanceMay.j0 k a2 t743 true a0_0 a0_1 a0_2 a0_3 a0_4 a0_5 a0_6 a0_7 a0_8 a0_9 a0_10 a0_11 l0_12 a1_0 a1_1 a1_2 a1_3 a1_4 a1_5 a1_6 a1_7 a1_8 a1_9 l1_10)) else (colloquylaw09_InstanceMay.j0 k a2 t743 true a0_0 a0_1 a0_2 a0_3 a0_4 a0_5 a0_6 a0_7 a0_8 a0_9 a0_10 a0_11 l0_12 a1_0 a1_1 a1_2 a1_3 a1_4 a1_5 a1_6 a1_7 a1_8 a1_9 l1_10)) else (colloquylaw09_InstanceMay.j0 k a2 t743 true a0_0 a0_1 a0_2 a0_3 a0_4 a0_5 a0_6 a0_7 a0_8 a0_9 a0_10 a0_11 l0_12 a1_0 a1_1 a1_2 a1_3 a1_4 a1_5 a1_6 a1_7 a1_8 a1_9 l1_10))))
def colloquylaw09_InstanceMay.T10 : Bool × List (List Nat × List Nat) := (true, [([], []), ([], []), ([0, 1], [0, 1]), ([2, 2], [2]), ([3], [3]), ([3], [3]), ([4, 5, 3, 3], [3, 4, 5]), ([3, 6], [3, 6]), ([7, 6], [7]), ([8], [8]), ([8], [8]), ([9, 10, 8, 8], [8, 9, 10]), ([8], [8]), ([8], [8]), ([12, 13, 11, 8], [8, 12, 13]), ([11, 14, 8], [8, 11, 14]), ([8, 15], [8, 15]), ([16, 14, 0, 1, 2, 3, 4, 5, 6, 7, 8, 9, 10, 11, 12, 13, 14, 15, 16], [16])])
def colloquylaw09_InstanceMay.B10 : List Nat := [0, 0, 3, 7, 15, 15, 63, 127, 255, 511, 511, 2047, 511, 511, 16383, 32767, 65535, 131071]
theorem colloquylaw09_InstanceMay.tab10 : rtab .any (opsOf Try.f7 10) = colloquylaw09_InstanceMay.T10 := by kernel_rfl
theorem colloquylaw09_InstanceMay.bits10 : waitsOk colloquylaw09_InstanceMay.T10.2 colloquylaw09_InstanceMay.B10 = true := by kernel_rfl
set_option maxHeartbeats 8000000 in
set_option maxRecDepth 100000 in
theorem colloquylaw09_InstanceMay.calls (k : Nat) (a0_0 : Int) (a0_1 : Int) (a0_2 : Int) (a0_3 : Int) (a0_4 : Int) (a0_5 : Int) (a0_6 : Int) (a0_7 : Int) (a0_8 : Int) (a0_9 : Int) (a0_10 : ByteArray) (a0_11 : Int) (A0_12 : Option Addr) (c0_12 : Nat) (l0_12 : List Int) (a1_0 : Int) (a1_1 : Int) (a1_2 : Int) (a1_3 : Int) (a1_4 : Int) (a1_5 : Int) (a1_6 : Int) (a1_7 : Int) (a1_8 : ByteArray) (a1_9 : Int) (A1_10 : Option Addr) (c1_10 : Nat) (l1_10 : List Int) (a2 : Int) (r : Bool) (w : World) (hr0_12 : Kd.C (Kd.int .i64) w A0_12 l0_12.length l0_12) (hc0_12 : l0_12.length ≤ c0_12) (hr1_10 : Kd.C (Kd.int .i64) w A1_10 l1_10.length l1_10) (hc1_10 : l1_10.length ≤ c1_10) (hrt : r = true) (h : colloquylaw09_InstanceMay.f k a0_0 a0_1 a0_2 a0_3 a0_4 a0_5 a0_6 a0_7 a0_8 a0_9 a0_10 a0_11 l0_12 a1_0 a1_1 a1_2 a1_3 a1_4 a1_5 a1_6 a1_7 a1_8 a1_9 l1_10 a2 = some r) :
    Calls Try.prog 7 #[.agg #[.int .i64 a0_0, .int .i64 a0_1, .int .i64 a0_2, .int .i64 a0_3, .int .i64 a0_4, .int .i64 a0_5, .int .i64 a0_6, .int .i64 a0_7, .int .i64 a0_8, .int .i64 a0_9, .string a0_10, .int .i64 a0_11, .slice A0_12 l0_12.length c0_12], .agg #[.int .i64 a1_0, .int .i64 a1_1, .int .i64 a1_2, .int .i64 a1_3, .int .i64 a1_4, .int .i64 a1_5, .int .i64 a1_6, .int .i64 a1_7, .string a1_8, .int .i64 a1_9, .slice A1_10 l1_10.length c1_10], .int .i64 a2] w fun e w' => e = .returned (.bool r) ∧ Below w.heap.size w w' := by
  have hu32 := Try.underlying32
  have hu35 := Try.underlying35
  have hu30 := Try.underlying30
  have hu25 := Try.underlying25
  have hu27 := Try.underlying27
  have HRT := Aside0.mk hrt
  clear hrt
  have HR0_12 := Aside0.mk hr0_12
  have HC0_12 := Aside0.mk hc0_12
  clear hr0_12 hc0_12
  have HR1_10 := Aside0.mk hr1_10
  have HC1_10 := Aside0.mk hc1_10
  clear hr1_10 hc1_10
  have HB := Aside0.mk (Below.refl w.heap.size w)
  have H : ((colloquylaw09_awake.f).bind fun t743 => ((colloquylaw09_Few.f a0_0 a0_1 a0_2 a0_3 a0_4 a0_5 a0_6 a0_7 a0_8 a0_9 a0_10 a0_11 l0_12).bind fun t744 => ((colloquylaw06_Few.f a1_9 l1_10).bind fun t745 => (if t743 = true then (if t744 = true then (if t745 = true then ((instance_May.f k a0_0 a0_1 a0_2 a0_3 a0_4 a0_5 a0_6 a0_7 a0_8 a0_9 a0_10 a0_11 l0_12 a2).bind fun t746 => (colloquylaw09_InstanceMay.j0 k a2 t743 (!t746) a0_0 a0_1 a0_2 a0_3 a0_4 a0_5 a0_6 a0_7 a0_8 a0_9 a0_10 a0_11 l0_12 a1_0 a1_1 a1_2 a1_3 a1_4 a1_5 a1_6 a1_7 a1_8 a1_9 l1_10)) else (colloquylaw09_InstanceMay.j0 k a2 t743 true a0_0 a0_1 a0_2 a0_3 a0_4 a0_5 a0_6 a0_7 a0_8 a0_9 a0_10 a0_11 l0_12 a1_0 a1_1 a1_2 a1_3 a1_4 a1_5 a1_6 a1_7 a1_8 a1_9 l1_10)) else (colloquylaw09_InstanceMay.j0 k a2 t743 true a0_0 a0_1 a0_2 a0_3 a0_4 a0_5 a0_6 a0_7 a0_8 a0_9 a0_10 a0_11 l0_12 a1_0 a1_1 a1_2 a1_3 a1_4 a1_5 a1_6 a1_7 a1_8 a1_9 l1_10)) else (colloquylaw09_InstanceMay.j0 k a2 t743 true a0_0 a0_1 a0_2 a0_3 a0_4 a0_5 a0_6 a0_7 a0_8 a0_9 a0_10 a0_11 l0_12 a1_0 a1_1 a1_2 a1_3 a1_4 a1_5 a1_6 a1_7 a1_8 a1_9 l1_10))))) = some r := h
  clear h
  replace H := Option.bind_eq_some_iff.mp H
  obtain ⟨t743, A40, H⟩ := H
  replace H : ((colloquylaw09_Few.f a0_0 a0_1 a0_2 a0_3 a0_4 a0_5 a0_6 a0_7 a0_8 a0_9 a0_10 a0_11 l0_12).bind fun t744 => ((colloquylaw06_Few.f a1_9 l1_10).bind fun t745 => (if t743 = true then (if t744 = true then (if t745 = true then ((instance_May.f k a0_0 a0_1 a0_2 a0_3 a0_4 a0_5 a0_6 a0_7 a0_8 a0_9 a0_10 a0_11 l0_12 a2).bind fun t746 => (colloquylaw09_InstanceMay.j0 k a2 t743 (!t746) a0_0 a0_1 a0_2 a0_3 a0_4 a0_5 a0_6 a0_7 a0_8 a0_9 a0_10 a0_11 l0_12 a1_0 a1_1 a1_2 a1_3 a1_4 a1_5 a1_6 a1_7 a1_8 a1_9 l1_10)) else (colloquylaw09_InstanceMay.j0 k a2 t743 true a0_0 a0_1 a0_2 a0_3 a0_4 a0_5 a0_6 a0_7 a0_8 a0_9 a0_10 a0_11 l0_12 a1_0 a1_1 a1_2 a1_3 a1_4 a1_5 a1_6 a1_7 a1_8 a1_9 l1_10)) else (colloquylaw09_InstanceMay.j0 k a2 t743 true a0_0 a0_1 a0_2 a0_3 a0_4 a0_5 a0_6 a0_7 a0_8 a0_9 a0_10 a0_11 l0_12 a1_0 a1_1 a1_2 a1_3 a1_4 a1_5 a1_6 a1_7 a1_8 a1_9 l1_10)) else (colloquylaw09_InstanceMay.j0 k a2 t743 true a0_0 a0_1 a0_2 a0_3 a0_4 a0_5 a0_6 a0_7 a0_8 a0_9 a0_10 a0_11 l0_12 a1_0 a1_1 a1_2 a1_3 a1_4 a1_5 a1_6 a1_7 a1_8 a1_9 l1_10)))) = some r := H
  have A4 := Aside0.mk A40
  clear A40
  replace H := Option.bind_eq_some_iff.mp H
  obtain ⟨t744, A50, H⟩ := H
  replace H : ((colloquylaw06_Few.f a1_9 l1_10).bind fun t745 => (if t743 = true then (if t744 = true then (if t745 = true then ((instance_May.f k a0_0 a0_1 a0_2 a0_3 a0_4 a0_5 a0_6 a0_7 a0_8 a0_9 a0_10 a0_11 l0_12 a2).bind fun t746 => (colloquylaw09_InstanceMay.j0 k a2 t743 (!t746) a0_0 a0_1 a0_2 a0_3 a0_4 a0_5 a0_6 a0_7 a0_8 a0_9 a0_10 a0_11 l0_12 a1_0 a1_1 a1_2 a1_3 a1_4 a1_5 a1_6 a1_7 a1_8 a1_9 l1_10)) else (colloquylaw09_InstanceMay.j0 k a2 t743 true a0_0 a0_1 a0_2 a0_3 a0_4 a0_5 a0_6 a0_7 a0_8 a0_9 a0_10 a0_11 l0_12 a1_0 a1_1 a1_2 a1_3 a1_4 a1_5 a1_6 a1_7 a1_8 a1_9 l1_10)) else (colloquylaw09_InstanceMay.j0 k a2 t743 true a0_0 a0_1 a0_2 a0_3 a0_4 a0_5 a0_6 a0_7 a0_8 a0_9 a0_10 a0_11 l0_12 a1_0 a1_1 a1_2 a1_3 a1_4 a1_5 a1_6 a1_7 a1_8 a1_9 l1_10)) else (colloquylaw09_InstanceMay.j0 k a2 t743 true a0_0 a0_1 a0_2 a0_3 a0_4 a0_5 a0_6 a0_7 a0_8 a0_9 a0_10 a0_11 l0_12 a1_0 a1_1 a1_2 a1_3 a1_4 a1_5 a1_6 a1_7 a1_8 a1_9 l1_10))) = some r := H
  have A5 := Aside0.mk A50
  clear A50
  replace H := Option.bind_eq_some_iff.mp H
  obtain ⟨t745, A60, H⟩ := H
  replace H : (if t743 = true then (if t744 = true then (if t745 = true then ((instance_May.f k a0_0 a0_1 a0_2 a0_3 a0_4 a0_5 a0_6 a0_7 a0_8 a0_9 a0_10 a0_11 l0_12 a2).bind fun t746 => (colloquylaw09_InstanceMay.j0 k a2 t743 (!t746) a0_0 a0_1 a0_2 a0_3 a0_4 a0_5 a0_6 a0_7 a0_8 a0_9 a0_10 a0_11 l0_12 a1_0 a1_1 a1_2 a1_3 a1_4 a1_5 a1_6 a1_7 a1_8 a1_9 l1_10)) else (colloquylaw09_InstanceMay.j0 k a2 t743 true a0_0 a0_1 a0_2 a0_3 a0_4 a0_5 a0_6 a0_7 a0_8 a0_9 a0_10 a0_11 l0_12 a1_0 a1_1 a1_2 a1_3 a1_4 a1_5 a1_6 a1_7 a1_8 a1_9 l1_10)) else (colloquylaw09_InstanceMay.j0 k a2 t743 true a0_0 a0_1 a0_2 a0_3 a0_4 a0_5 a0_6 a0_7 a0_8 a0_9 a0_10 a0_11 l0_12 a1_0 a1_1 a1_2 a1_3 a1_4 a1_5 a1_6 a1_7 a1_8 a1_9 l1_10)) else (colloquylaw09_InstanceMay.j0 k a2 t743 true a0_0 a0_1 a0_2 a0_3 a0_4 a0_5 a0_6 a0_7 a0_8 a0_9 a0_10 a0_11 l0_12 a1_0 a1_1 a1_2 a1_3 a1_4 a1_5 a1_6 a1_7 a1_8 a1_9 l1_10)) = some r := H
  have A6 := Aside0.mk A60
  clear A60
  have HC7 := Aside0.mk H
  clear H
  go_enter Try.func7, Try.ntmps7
  go_upto_region 4 with (first | ((with_reducible refine gate_dst (N := 3) rfl ?_); refine box_event ?hg (N := 3) ?hd (cs := #[.int .i64 a0_0, .int .i64 a0_1, .int .i64 a0_2, .int .i64 a0_3, .int .i64 a0_4, .int .i64 a0_5, .int .i64 a0_6, .int .i64 a0_7, .int .i64 a0_8, .int .i64 a0_9, .string a0_10, .int .i64 a0_11, .slice A0_12 l0_12.length c0_12]) (t := 32) ?hr ?_; (case hd => rfl); (case hg => rfl); (case hr => first | (go_simp; done) | (go_simp; rfl)); intro gb741 hg w8 hbox hb; have n0_ := Aside0.mk (below_step (by repeat (first | (with_reducible first | exact HB.out | apply below_alloc | apply pw_below_drewN | apply below_drew1) | exact HB.out)) hb); have n1_ := Aside0.mk (hbox); have n2_ := Aside0.mk ((by rw [hg]; exact (below_size (by repeat (first | (with_reducible first | exact HB.out | apply below_alloc | apply pw_below_drewN | apply below_drew1) | exact HB.out))) : w.heap.size ≤ gb741)); have n3_ := Aside0.mk ((by rw [hg]; exact (below_size (by repeat (first | (with_reducible first | exact HB.out | apply below_alloc | apply pw_below_drewN | apply below_drew1) | exact HB.out))) : w.heap.size ≤ gb741)); clear HB; have HB := n0_; have BK741 := n1_; have GW741 := n2_; have GE741 := n3_; clear n0_ n1_ n2_ n3_; clear hb hbox hg) | ((with_reducible refine gate_dst (N := 4) rfl ?_); refine box_event ?hg (N := 4) ?hd (cs := #[.int .i64 a1_0, .int .i64 a1_1, .int .i64 a1_2, .int .i64 a1_3, .int .i64 a1_4, .int .i64 a1_5, .int .i64 a1_6, .int .i64 a1_7, .string a1_8, .int .i64 a1_9, .slice A1_10 l1_10.length c1_10]) (t := 35) ?hr ?_; (case hd => rfl); (case hg => rfl); (case hr => first | (go_simp; done) | (go_simp; rfl)); intro gb742 hg w9 hbox hb; have n0_ := Aside0.mk (blk_below (g := gb741) (by (with_reducible repeat (first | refine blk_drewN ?_ _ | refine blk_drew ?_ | refine blk_alloc ?_ _)); exact BK741.out) hb); have n1_ := Aside0.mk (below_step (by repeat (first | (with_reducible first | exact HB.out | apply below_alloc | apply pw_below_drewN | apply below_drew1 | refine below_set ?_ GE741.out) | exact HB.out)) hb); have n2_ := Aside0.mk (hbox); have n3_ := Aside0.mk ((by rw [hg]; exact (below_size (by repeat (first | (with_reducible first | exact HB.out | apply below_alloc | apply pw_below_drewN | apply below_drew1 | refine below_set ?_ GE741.out) | exact HB.out))) : w.heap.size ≤ gb742)); have n4_ := Aside0.mk ((by rw [hg]; exact (below_size (by repeat (first | (with_reducible first | exact HB.out | apply below_alloc | apply pw_below_drewN | apply below_drew1 | refine below_set ?_ GE741.out) | exact HB.out))) : w.heap.size ≤ gb742)); have n5_ := Aside0.mk ((by rw [hg]; exact Nat.ne_of_lt (blk_lt (g := gb741) (by (with_reducible repeat (first | refine blk_drewN ?_ _ | refine blk_drew ?_ | refine blk_alloc ?_ _)); exact BK741.out)) : gb741 ≠ gb742)); have n6_ := Aside0.mk ((by rw [hg]; exact Nat.ne_of_gt (blk_lt (g := gb741) (by (with_reducible repeat (first | refine blk_drewN ?_ _ | refine blk_drew ?_ | refine blk_alloc ?_ _)); exact BK741.out)) : gb742 ≠ gb741)); clear BK741; clear HB; have BK741 := n0_; have HB := n1_; have BK742 := n2_; have GW742 := n3_; have GE742 := n4_; have NB741_742 := n5_; have NB742_741 := n6_; clear n0_ n1_ n2_ n3_ n4_ n5_ n6_; clear hb hbox hg) | ((with_reducible refine gate_callee (f := 8) rfl ?_); refine goesL_ (some 13) rfl rfl Try.func8 (by kernel_rfl) rfl #[] rfl (by (try simp only [List.map_toArray, List.map_cons, List.map_nil]); first | done | rfl | (simp only [List.length_drop, List.length_take]; rfl)) ?_; (with_reducible refine (colloquylaw09_awake.calls  t743 _ A4.out).mono ?_); rintro e w10 ⟨rfl, hb⟩; refine ⟨_, rfl, ?_⟩; have n0_ := Aside0.mk (blk_below (g := gb741) (by (with_reducible repeat (first | refine blk_drewN ?_ _ | refine blk_drew ?_ | refine blk_alloc ?_ _)); exact BK741.out) hb); have n1_ := Aside0.mk (blk_below (g := gb742) (by (with_reducible repeat (first | refine blk_drewN ?_ _ | refine blk_drew ?_ | refine blk_alloc ?_ _)); exact BK742.out) hb); have n2_ := Aside0.mk (below_step (by repeat (first | (with_reducible first | exact HB.out | apply below_alloc | apply pw_below_drewN | apply below_drew1 | refine below_set ?_ GE741.out | refine below_set ?_ GE742.out) | exact HB.out)) hb); clear BK741; clear BK742; clear HB; have BK741 := n0_; have BK742 := n1_; have HB := n2_; clear n0_ n1_ n2_; (try clear hb); (try clear hb2); (try clear hk); (try clear hi); have hnb11 := NB741_742.out; have hnc11 := NB742_741.out; have hcz12_0 : w10.cell? ⟨gb741, 0, none⟩ = some (.int .i64 a0_0) := (blk_cell BK741.out 0).trans rfl; have hcz12_1 : w10.cell? ⟨gb741, 1, none⟩ = some (.int .i64 a0_1) := (blk_cell BK741.out 1).trans rfl; have hcz12_2 : w10.cell? ⟨gb741, 2, none⟩ = some (.int .i64 a0_2) := (blk_cell BK741.out 2).trans rfl; have hcz12_3 : w10.cell? ⟨gb741, 3, none⟩ = some (.int .i64 a0_3) := (blk_cell BK741.out 3).trans rfl; have hcz12_4 : w10.cell? ⟨gb741, 4, none⟩ = some (.int .i64 a0_4) := (blk_cell BK741.out 4).trans rfl; have hcz12_5 : w10.cell? ⟨gb741, 5, none⟩ = some (.int .i64 a0_5) := (blk_cell BK741.out 5).trans rfl; have hcz12_6 : w10.cell? ⟨gb741, 6, none⟩ = some (.int .i64 a0_6) := (blk_cell BK741.out 6).trans rfl; have hcz12_7 : w10.cell? ⟨gb741, 7, none⟩ = some (.int .i64 a0_7) := (blk_cell BK741.out 7).trans rfl; have hcz12_8 : w10.cell? ⟨gb741, 8, none⟩ = some (.int .i64 a0_8) := (blk_cell BK741.out 8).trans rfl; have hcz12_9 : w10.cell? ⟨gb741, 9, none⟩ = some (.int .i64 a0_9) := (blk_cell BK741.out 9).trans rfl; have hcz12_10 : w10.cell? ⟨gb741, 10, none⟩ = some (.string a0_10) := (blk_cell BK741.out 10).trans rfl; have hcz12_11 : w10.cell? ⟨gb741, 11, none⟩ = some (.int .i64 a0_11) := (blk_cell BK741.out 11).trans rfl; have hcz12_12 : w10.cell? ⟨gb741, 12, none⟩ = some (.slice A0_12 l0_12.length c0_12) := (blk_cell BK741.out 12).trans rfl; have hfz12_0 := blk_frozen BK741.out 0; have hfz12_1 := blk_frozen BK741.out 1; have hfz12_2 := blk_frozen BK741.out 2; have hfz12_3 := blk_frozen BK741.out 3; have hfz12_4 := blk_frozen BK741.out 4; have hfz12_5 := blk_frozen BK741.out 5; have hfz12_6 := blk_frozen BK741.out 6; have hfz12_7 := blk_frozen BK741.out 7; have hfz12_8 := blk_frozen BK741.out 8; have hfz12_9 := blk_frozen BK741.out 9; have hfz12_10 := blk_frozen BK741.out 10; have hfz12_11 := blk_frozen BK741.out 11; have hfz12_12 := blk_frozen BK741.out 12) | ((with_reducible refine gate_callee (f := 13) rfl ?_); refine goesL_ (some 15) rfl rfl Try.func13 (by kernel_rfl) rfl #[.agg #[.int .i64 a0_0, .int .i64 a0_1, .int .i64 a0_2, .int .i64 a0_3, .int .i64 a0_4, .int .i64 a0_5, .int .i64 a0_6, .int .i64 a0_7, .int .i64 a0_8, .int .i64 a0_9, .string a0_10, .int .i64 a0_11, .slice A0_12 l0_12.length c0_12]] rfl (by (try simp only [List.map_toArray, List.map_cons, List.map_nil]); first | done | rfl | (simp only [List.length_drop, List.length_take]; rfl)) ?_; (with_reducible refine (colloquylaw09_Few.calls a0_0 a0_1 a0_2 a0_3 a0_4 a0_5 a0_6 a0_7 a0_8 a0_9 a0_10 a0_11 _ _ l0_12 t744 _ ?side1 ?side2 A5.out).mono ?_); (case side1 => repeat (first | exact (Kd.C_below HR0_12.out HB.out) | (with_reducible refine Kd.C_alloc ?_ _) | (with_reducible refine Kd.C_drewN ?_ _) | (with_reducible refine Kd.C_drew ?_))); (case side2 => exact HC0_12.out); rintro e w13 ⟨rfl, hb⟩; refine ⟨_, rfl, ?_⟩; have n0_ := Aside0.mk (blk_below (g := gb741) (by (with_reducible repeat (first | refine blk_drewN ?_ _ | refine blk_drew ?_ | refine blk_alloc ?_ _)); exact BK741.out) hb); have n1_ := Aside0.mk (blk_below (g := gb742) (by (with_reducible repeat (first | refine blk_drewN ?_ _ | refine blk_drew ?_ | refine blk_alloc ?_ _)); exact BK742.out) hb); have n2_ := Aside0.mk (below_step (by repeat (first | (with_reducible first | exact HB.out | apply below_alloc | apply pw_below_drewN | apply below_drew1 | refine below_set ?_ GE741.out | refine below_set ?_ GE742.out) | exact HB.out)) hb); clear BK741; clear BK742; clear HB; have BK741 := n0_; have BK742 := n1_; have HB := n2_; clear n0_ n1_ n2_; (try clear hb); (try clear hb2); (try clear hk); (try clear hi); have hcz14_0 : w13.cell? ⟨gb742, 0, none⟩ = some (.int .i64 a1_0) := (blk_cell BK742.out 0).trans rfl; have hcz14_1 : w13.cell? ⟨gb742, 1, none⟩ = some (.int .i64 a1_1) := (blk_cell BK742.out 1).trans rfl; have hcz14_2 : w13.cell? ⟨gb742, 2, none⟩ = some (.int .i64 a1_2) := (blk_cell BK742.out 2).trans rfl; have hcz14_3 : w13.cell? ⟨gb742, 3, none⟩ = some (.int .i64 a1_3) := (blk_cell BK742.out 3).trans rfl; have hcz14_4 : w13.cell? ⟨gb742, 4, none⟩ = some (.int .i64 a1_4) := (blk_cell BK742.out 4).trans rfl; have hcz14_5 : w13.cell? ⟨gb742, 5, none⟩ = some (.int .i64 a1_5) := (blk_cell BK742.out 5).trans rfl; have hcz14_6 : w13.cell? ⟨gb742, 6, none⟩ = some (.int .i64 a1_6) := (blk_cell BK742.out 6).trans rfl; have hcz14_7 : w13.cell? ⟨gb742, 7, none⟩ = some (.int .i64 a1_7) := (blk_cell BK742.out 7).trans rfl; have hcz14_8 : w13.cell? ⟨gb742, 8, none⟩ = some (.string a1_8) := (blk_cell BK742.out 8).trans rfl; have hcz14_9 : w13.cell? ⟨gb742, 9, none⟩ = some (.int .i64 a1_9) := (blk_cell BK742.out 9).trans rfl; have hcz14_10 : w13.cell? ⟨gb742, 10, none⟩ = some (.slice A1_10 l1_10.length c1_10) := (blk_cell BK742.out 10).trans rfl; have hfz14_0 := blk_frozen BK742.out 0; have hfz14_1 := blk_frozen BK742.out 1; have hfz14_2 := blk_frozen BK742.out 2; have hfz14_3 := blk_frozen BK742.out 3; have hfz14_4 := blk_frozen BK742.out 4; have hfz14_5 := blk_frozen BK742.out 5; have hfz14_6 := blk_frozen BK742.out 6; have hfz14_7 := blk_frozen BK742.out 7; have hfz14_8 := blk_frozen BK742.out 8; have hfz14_9 := blk_frozen BK742.out 9; have hfz14_10 := blk_frozen BK742.out 10) | ((with_reducible refine gate_callee (f := 9) rfl ?_); refine goesL_ (some 18) rfl rfl Try.func9 (by kernel_rfl) rfl #[.agg #[.int .i64 a1_9, .slice A1_10 l1_10.length c1_10]] rfl (by (try simp only [List.map_toArray, List.map_cons, List.map_nil]); first | done | rfl | (simp only [List.length_drop, List.length_take]; rfl)) ?_; (with_reducible refine (colloquylaw06_Few.calls a1_9 _ _ l1_10 t745 _ ?side1 ?side2 A6.out).mono ?_); (case side1 => repeat (first | exact (Kd.C_below HR1_10.out HB.out) | (with_reducible refine Kd.C_alloc ?_ _) | (with_reducible refine Kd.C_drewN ?_ _) | (with_reducible refine Kd.C_drew ?_))); (case side2 => exact HC1_10.out); rintro e w15 ⟨rfl, hb⟩; refine ⟨_, rfl, ?_⟩; have n0_ := Aside0.mk (blk_below (g := gb741) (by (with_reducible repeat (first | refine blk_drewN ?_ _ | refine blk_drew ?_ | refine blk_alloc ?_ _)); exact BK741.out) hb); have n1_ := Aside0.mk (blk_below (g := gb742) (by (with_reducible repeat (first | refine blk_drewN ?_ _ | refine blk_drew ?_ | refine blk_alloc ?_ _)); exact BK742.out) hb); have n2_ := Aside0.mk (below_step (by repeat (first | (with_reducible first | exact HB.out | apply below_alloc | apply pw_below_drewN | apply below_drew1 | refine below_set ?_ GE741.out | refine below_set ?_ GE742.out) | exact HB.out)) hb); clear BK741; clear BK742; clear HB; have BK741 := n0_; have BK742 := n1_; have HB := n2_; clear n0_ n1_ n2_; (try clear hb); (try clear hb2); (try clear hk); (try clear hi)))
  (try simp only [Act.put, List.setIfInBounds_toArray, List.set_cons_zero, List.set_cons_succ])
  go_cut [34] (fun v34 wc => ∃ (kq : Nat) (x34_6 : Bool), v34 = .bool x34_6 ∧ Aside0 (colloquylaw09_InstanceMay.j0 kq a2 t743 x34_6 a0_0 a0_1 a0_2 a0_3 a0_4 a0_5 a0_6 a0_7 a0_8 a0_9 a0_10 a0_11 l0_12 a1_0 a1_1 a1_2 a1_3 a1_4 a1_5 a1_6 a1_7 a1_8 a1_9 l1_10 = some r) ∧ Aside0 (kq ≤ k) ∧ Aside0 (wc.heap[gb741]? = some (.cells #[.int .i64 a0_0, .int .i64 a0_1, .int .i64 a0_2, .int .i64 a0_3, .int .i64 a0_4, .int .i64 a0_5, .int .i64 a0_6, .int .i64 a0_7, .int .i64 a0_8, .int .i64 a0_9, .string a0_10, .int .i64 a0_11, (.slice A0_12 l0_12.length c0_12)] 32 (0, 0))) ∧ Aside0 (wc.heap[gb742]? = some (.cells #[.int .i64 a1_0, .int .i64 a1_1, .int .i64 a1_2, .int .i64 a1_3, .int .i64 a1_4, .int .i64 a1_5, .int .i64 a1_6, .int .i64 a1_7, .string a1_8, .int .i64 a1_9, (.slice A1_10 l1_10.length c1_10)] 35 (0, 0))) ∧ Aside0 (Below w.heap.size w wc))
  case first =>
    have H := HC7.out
    clear HC7
    by_cases c16 : t743 = true
    · subst c16
      have H1 : (if t744 = true then (if t745 = true then ((instance_May.f k a0_0 a0_1 a0_2 a0_3 a0_4 a0_5 a0_6 a0_7 a0_8 a0_9 a0_10 a0_11 l0_12 a2).bind fun t746 => (colloquylaw09_InstanceMay.j0 k a2 true (!t746) a0_0 a0_1 a0_2 a0_3 a0_4 a0_5 a0_6 a0_7 a0_8 a0_9 a0_10 a0_11 l0_12 a1_0 a1_1 a1_2 a1_3 a1_4 a1_5 a1_6 a1_7 a1_8 a1_9 l1_10)) else (colloquylaw09_InstanceMay.j0 k a2 true true a0_0 a0_1 a0_2 a0_3 a0_4 a0_5 a0_6 a0_7 a0_8 a0_9 a0_10 a0_11 l0_12 a1_0 a1_1 a1_2 a1_3 a1_4 a1_5 a1_6 a1_7 a1_8 a1_9 l1_10)) else (colloquylaw09_InstanceMay.j0 k a2 true true a0_0 a0_1 a0_2 a0_3 a0_4 a0_5 a0_6 a0_7 a0_8 a0_9 a0_10 a0_11 l0_12 a1_0 a1_1 a1_2 a1_3 a1_4 a1_5 a1_6 a1_7 a1_8 a1_9 l1_10)) = some r := by rw [if_pos rfl] at H; exact H
      clear H
      have H := H1
      clear H1
      by_cases c17 : t744 = true
      · subst c17
        have H1 : (if t745 = true then ((instance_May.f k a0_0 a0_1 a0_2 a0_3 a0_4 a0_5 a0_6 a0_7 a0_8 a0_9 a0_10 a0_11 l0_12 a2).bind fun t746 => (colloquylaw09_InstanceMay.j0 k a2 true (!t746) a0_0 a0_1 a0_2 a0_3 a0_4 a0_5 a0_6 a0_7 a0_8 a0_9 a0_10 a0_11 l0_12 a1_0 a1_1 a1_2 a1_3 a1_4 a1_5 a1_6 a1_7 a1_8 a1_9 l1_10)) else (colloquylaw09_InstanceMay.j0 k a2 true true a0_0 a0_1 a0_2 a0_3 a0_4 a0_5 a0_6 a0_7 a0_8 a0_9 a0_10 a0_11 l0_12 a1_0 a1_1 a1_2 a1_3 a1_4 a1_5 a1_6 a1_7 a1_8 a1_9 l1_10)) = some r := by rw [if_pos rfl] at H; exact H
        clear H
        have H := H1
        clear H1
        by_cases c18 : t745 = true
        · subst c18
          have H1 : ((instance_May.f k a0_0 a0_1 a0_2 a0_3 a0_4 a0_5 a0_6 a0_7 a0_8 a0_9 a0_10 a0_11 l0_12 a2).bind fun t746 => (colloquylaw09_InstanceMay.j0 k a2 true (!t746) a0_0 a0_1 a0_2 a0_3 a0_4 a0_5 a0_6 a0_7 a0_8 a0_9 a0_10 a0_11 l0_12 a1_0 a1_1 a1_2 a1_3 a1_4 a1_5 a1_6 a1_7 a1_8 a1_9 l1_10)) = some r := by rw [if_pos rfl] at H; exact H
          clear H
          have H := H1
          clear H1
          replace H := Option.bind_eq_some_iff.mp H
          obtain ⟨t746, A190, H⟩ := H
          replace H : (colloquylaw09_InstanceMay.j0 k a2 true (!t746) a0_0 a0_1 a0_2 a0_3 a0_4 a0_5 a0_6 a0_7 a0_8 a0_9 a0_10 a0_11 l0_12 a1_0 a1_1 a1_2 a1_3 a1_4 a1_5 a1_6 a1_7 a1_8 a1_9 l1_10) = some r := H
          have A19 := Aside0.mk A190
          clear A190
          have H' := Aside0.mk H
          clear H
          have hnb20 := NB741_742.out
          have hnc20 := NB742_741.out
          have hcz21_0 : w15.cell? ⟨gb741, 0, none⟩ = some (.int .i64 a0_0) := (blk_cell BK741.out 0).trans rfl
          have hcz21_1 : w15.cell? ⟨gb741, 1, none⟩ = some (.int .i64 a0_1) := (blk_cell BK741.out 1).trans rfl
          have hcz21_2 : w15.cell? ⟨gb741, 2, none⟩ = some (.int .i64 a0_2) := (blk_cell BK741.out 2).trans rfl
          have hcz21_3 : w15.cell? ⟨gb741, 3, none⟩ = some (.int .i64 a0_3) := (blk_cell BK741.out 3).trans rfl
          have hcz21_4 : w15.cell? ⟨gb741, 4, none⟩ = some (.int .i64 a0_4) := (blk_cell BK741.out 4).trans rfl
          have hcz21_5 : w15.cell? ⟨gb741, 5, none⟩ = some (.int .i64 a0_5) := (blk_cell BK741.out 5).trans rfl
          have hcz21_6 : w15.cell? ⟨gb741, 6, none⟩ = some (.int .i64 a0_6) := (blk_cell BK741.out 6).trans rfl
          have hcz21_7 : w15.cell? ⟨gb741, 7, none⟩ = some (.int .i64 a0_7) := (blk_cell BK741.out 7).trans rfl
          have hcz21_8 : w15.cell? ⟨gb741, 8, none⟩ = some (.int .i64 a0_8) := (blk_cell BK741.out 8).trans rfl
          have hcz21_9 : w15.cell? ⟨gb741, 9, none⟩ = some (.int .i64 a0_9) := (blk_cell BK741.out 9).trans rfl
          have hcz21_10 : w15.cell? ⟨gb741, 10, none⟩ = some (.string a0_10) := (blk_cell BK741.out 10).trans rfl
          have hcz21_11 : w15.cell? ⟨gb741, 11, none⟩ = some (.int .i64 a0_11) := (blk_cell BK741.out 11).trans rfl
          have hcz21_12 : w15.cell? ⟨gb741, 12, none⟩ = some (.slice A0_12 l0_12.length c0_12) := (blk_cell BK741.out 12).trans rfl
          have hfz21_0 := blk_frozen BK741.out 0
          have hfz21_1 := blk_frozen BK741.out 1
          have hfz21_2 := blk_frozen BK741.out 2
          have hfz21_3 := blk_frozen BK741.out 3
          have hfz21_4 := blk_frozen BK741.out 4
          have hfz21_5 := blk_frozen BK741.out 5
          have hfz21_6 := blk_frozen BK741.out 6
          have hfz21_7 := blk_frozen BK741.out 7
          have hfz21_8 := blk_frozen BK741.out 8
          have hfz21_9 := blk_frozen BK741.out 9
          have hfz21_10 := blk_frozen BK741.out 10
          have hfz21_11 := blk_frozen BK741.out 11
          have hfz21_12 := blk_frozen BK741.out 12
          go_wp2_with (first | (go_at_call 16; (with_reducible refine (instance_May.calls k a0_0 a0_1 a0_2 a0_3 a0_4 a0_5 a0_6 a0_7 a0_8 a0_9 a0_10 a0_11 _ _ l0_12 a2 t746 _ ?side1 ?side2 A19.out).mono ?_); (case side1 => repeat (first | exact (Kd.C_below HR0_12.out HB.out) | (with_reducible refine Kd.C_alloc ?_ _) | (with_reducible refine Kd.C_drewN ?_ _) | (with_reducible refine Kd.C_drew ?_))); (case side2 => exact HC0_12.out); rintro e w22 ⟨rfl, hb⟩; have n0_ := Aside0.mk (blk_below (g := gb741) (by (with_reducible repeat (first | refine blk_drewN ?_ _ | refine blk_drew ?_ | refine blk_alloc ?_ _)); exact BK741.out) hb); have n1_ := Aside0.mk (blk_below (g := gb742) (by (with_reducible repeat (first | refine blk_drewN ?_ _ | refine blk_drew ?_ | refine blk_alloc ?_ _)); exact BK742.out) hb); have n2_ := Aside0.mk (below_step (by repeat (first | (with_reducible first | exact HB.out | apply below_alloc | apply pw_below_drewN | apply below_drew1 | refine below_set ?_ GE741.out | refine below_set ?_ GE742.out) | exact HB.out)) hb); clear BK741; clear BK742; clear HB; have BK741 := n0_; have BK742 := n1_; have HB := n2_; clear n0_ n1_ n2_; (try clear hb); (try clear hb2); (try clear hk); (try clear hi)))
          go_meet
          case rel => exact ⟨_, (!t746), (by first | rfl | (simp; done) | (simp [*]; done)), H', ⟨by first | omega | exact Nat.le_refl _⟩, ⟨by (with_reducible repeat (first | refine blk_drewN ?_ _ | refine blk_drew ?_ | refine blk_alloc ?_ _)); exact BK741.out⟩, ⟨by (with_reducible repeat (first | refine blk_drewN ?_ _ | refine blk_drew ?_ | refine blk_alloc ?_ _)); exact BK742.out⟩, ⟨by repeat (first | (with_reducible first | exact HB.out | apply below_alloc | apply pw_below_drewN | apply below_drew1 | refine below_set ?_ GE741.out | refine below_set ?_ GE742.out) | exact HB.out)⟩⟩
        · replace c18 := Bool.eq_false_iff.mpr c18
          subst c18
          have H1 : (colloquylaw09_InstanceMay.j0 k a2 true true a0_0 a0_1 a0_2 a0_3 a0_4 a0_5 a0_6 a0_7 a0_8 a0_9 a0_10 a0_11 l0_12 a1_0 a1_1 a1_2 a1_3 a1_4 a1_5 a1_6 a1_7 a1_8 a1_9 l1_10) = some r := by rw [if_neg (show ¬ (false = true) by decide)] at H; exact H
          clear H
          have H := H1
          clear H1
          have H' := Aside0.mk H
          clear H
          go_wp2
          go_meet
          case rel => exact ⟨_, (true), (by first | rfl | (simp; done) | (simp [*]; done)), H', ⟨by first | omega | exact Nat.le_refl _⟩, ⟨by (with_reducible repeat (first | refine blk_drewN ?_ _ | refine blk_drew ?_ | refine blk_alloc ?_ _)); exact BK741.out⟩, ⟨by (with_reducible repeat (first | refine blk_drewN ?_ _ | refine blk_drew ?_ | refine blk_alloc ?_ _)); exact BK742.out⟩, ⟨by repeat (first | (with_reducible first | exact HB.out | apply below_alloc | apply pw_below_drewN | apply below_drew1 | refine below_set ?_ GE741.out | refine below_set ?_ GE742.out) | exact HB.out)⟩⟩
      · replace c17 := Bool.eq_false_iff.mpr c17
        subst c17
        have H1 : (colloquylaw09_InstanceMay.j0 k a2 true true a0_0 a0_1 a0_2 a0_3 a0_4 a0_5 a0_6 a0_7 a0_8 a0_9 a0_10 a0_11 l0_12 a1_0 a1_1 a1_2 a1_3 a1_4 a1_5 a1_6 a1_7 a1_8 a1_9 l1_10) = some r := by rw [if_neg (show ¬ (false = true) by decide)] at H; exact H
        clear H
        have H := H1
        clear H1
        have H' := Aside0.mk H
        clear H
        go_wp2
        go_meet
        case rel => exact ⟨_, (true), (by first | rfl | (simp; done) | (simp [*]; done)), H', ⟨by first | omega | exact Nat.le_refl _⟩, ⟨by (with_reducible repeat (first | refine blk_drewN ?_ _ | refine blk_drew ?_ | refine blk_alloc ?_ _)); exact BK741.out⟩, ⟨by (with_reducible repeat (first | refine blk_drewN ?_ _ | refine blk_drew ?_ | refine blk_alloc ?_ _)); exact BK742.out⟩, ⟨by repeat (first | (with_reducible first | exact HB.out | apply below_alloc | apply pw_below_drewN | apply below_drew1 | refine below_set ?_ GE741.out | refine below_set ?_ GE742.out) | exact HB.out)⟩⟩
    · replace c16 := Bool.eq_false_iff.mpr c16
      subst c16
      have H1 : (colloquylaw09_InstanceMay.j0 k a2 false true a0_0 a0_1 a0_2 a0_3 a0_4 a0_5 a0_6 a0_7 a0_8 a0_9 a0_10 a0_11 l0_12 a1_0 a1_1 a1_2 a1_3 a1_4 a1_5 a1_6 a1_7 a1_8 a1_9 l1_10) = some r := by rw [if_neg (show ¬ (false = true) by decide)] at H; exact H
      clear H
      have H := H1
      clear H1
      have H' := Aside0.mk H
      clear H
      go_wp2
      go_meet
      case rel => exact ⟨_, (true), (by first | rfl | (simp; done) | (simp [*]; done)), H', ⟨by first | omega | exact Nat.le_refl _⟩, ⟨by (with_reducible repeat (first | refine blk_drewN ?_ _ | refine blk_drew ?_ | refine blk_alloc ?_ _)); exact BK741.out⟩, ⟨by (with_reducible repeat (first | refine blk_drewN ?_ _ | refine blk_drew ?_ | refine blk_alloc ?_ _)); exact BK742.out⟩, ⟨by repeat (first | (with_reducible first | exact HB.out | apply below_alloc | apply pw_below_drewN | apply below_drew1 | refine below_set ?_ GE741.out | refine below_set ?_ GE742.out) | exact HB.out)⟩⟩
  case rest =>
    clear HC7
    try clear c1
    try clear c2
    try clear p2
    try clear c7
    try clear c8
    try clear c9
    try clear c11
    try clear c13
    try clear c16
    try clear c17
    try clear c18
    try clear c20
    try clear hcz12_0
    try clear hcz12_1
    try clear hcz12_10
    try clear hcz12_11
    try clear hcz12_12
    try clear hcz12_2
    try clear hcz12_3
    try clear hcz12_4
    try clear hcz12_5
    try clear hcz12_6
    try clear hcz12_7
    try clear hcz12_8
    try clear hcz12_9
    try clear hcz14_0
    try clear hcz14_1
    try clear hcz14_10
    try clear hcz14_2
    try clear hcz14_3
    try clear hcz14_4
    try clear hcz14_5
    try clear hcz14_6
    try clear hcz14_7
    try clear hcz14_8
    try clear hcz14_9
    try clear hcz21_0
    try clear hcz21_1
    try clear hcz21_10
    try clear hcz21_11
    try clear hcz21_12
    try clear hcz21_2
    try clear hcz21_3
    try clear hcz21_4
    try clear hcz21_5
    try clear hcz21_6
    try clear hcz21_7
    try clear hcz21_8
    try clear hcz21_9
    try clear hfz12_0
    try clear hfz12_1
    try clear hfz12_10
    try clear hfz12_11
    try clear hfz12_12
    try clear hfz12_2
    try clear hfz12_3
    try clear hfz12_4
    try clear hfz12_5
    try clear hfz12_6
    try clear hfz12_7
    try clear hfz12_8
    try clear hfz12_9
    try clear hfz14_0
    try clear hfz14_1
    try clear hfz14_10
    try clear hfz14_2
    try clear hfz14_3
    try clear hfz14_4
    try clear hfz14_5
    try clear hfz14_6
    try clear hfz14_7
    try clear hfz14_8
    try clear hfz14_9
    try clear hfz21_0
    try clear hfz21_1
    try clear hfz21_10
    try clear hfz21_11
    try clear hfz21_12
    try clear hfz21_2
    try clear hfz21_3
    try clear hfz21_4
    try clear hfz21_5
    try clear hfz21_6
    try clear hfz21_7
    try clear hfz21_8
    try clear hfz21_9
    obtain ⟨kq, x34_6, rfl, HA, HJ6, BK741, BK742, HB⟩ := hcut
    cases kq with
    | zero => exact absurd HA.out (by simp [colloquylaw09_InstanceMay.j0])
    | succ kj6 =>
      have H := HA.out
      clear HA
      simp only [colloquylaw09_InstanceMay.j0] at H
      by_cases c23 : x34_6 = true
      · subst c23
        have H1 : (some t743) = some r := by rw [if_pos rfl] at H; exact H
        clear H
        have H := H1
        clear H1
        obtain rfl := Option.some.inj H
        go_wp2
        go_ret
        exact ⟨by first | rfl | (simp [errW_none, errW_some] <;> rfl) | (simp [*, errW_none, errW_some] <;> rfl), by repeat (first | (with_reducible first | exact HB.out | apply below_alloc | apply pw_below_drewN | apply below_drew1 | refine below_set ?_ GE741.out | refine below_set ?_ GE742.out) | exact HB.out)⟩
      · replace c23 := Bool.eq_false_iff.mpr c23
        subst c23
        have H1 : ((instance_May.f kj6 2 0 1 0 1 a1_3 a1_4 a1_5 a1_6 a1_7 a1_8 a1_9 l1_10 a2).bind fun t748 => (if t748 = true then ((colloquylaw09_does.f kj6 a0_0 a0_1 a0_2 a0_3 a0_4 a0_5 a0_6 a0_7 a0_8 a0_9 a0_10 a0_11 l0_12 a1_0 a1_1 a1_2 a1_3 a1_4 a1_5 a1_6 a1_7 a1_8 a1_9 l1_10).bind fun bt749 => ((instance_May.f kj6 bt749.1 bt749.2.1 bt749.2.2.1 bt749.2.2.2.1 bt749.2.2.2.2.1 bt749.2.2.2.2.2.1 bt749.2.2.2.2.2.2.1 bt749.2.2.2.2.2.2.2.1 bt749.2.2.2.2.2.2.2.2.1 bt749.2.2.2.2.2.2.2.2.2.1 bt749.2.2.2.2.2.2.2.2.2.2.1 bt749.2.2.2.2.2.2.2.2.2.2.2.1 bt749.2.2.2.2.2.2.2.2.2.2.2.2.1 a2).bind fun t766 => (if t766 = true then ((instance_Same.f bt749.1 bt749.2.1 bt749.2.2.1 bt749.2.2.2.1 bt749.2.2.2.2.1 bt749.2.2.2.2.2.1 bt749.2.2.2.2.2.2.1 bt749.2.2.2.2.2.2.2.1 bt749.2.2.2.2.2.2.2.2.1 bt749.2.2.2.2.2.2.2.2.2.1 bt749.2.2.2.2.2.2.2.2.2.2.1 bt749.2.2.2.2.2.2.2.2.2.2.2.1 bt749.2.2.2.2.2.2.2.2.2.2.2.2.1 bt749.1 bt749.2.1 bt749.2.2.1 bt749.2.2.2.1 bt749.2.2.2.2.1 bt749.2.2.2.2.2.1 bt749.2.2.2.2.2.2.1 bt749.2.2.2.2.2.2.2.1 bt749.2.2.2.2.2.2.2.2.1 bt749.2.2.2.2.2.2.2.2.2.1 bt749.2.2.2.2.2.2.2.2.2.2.1 bt749.2.2.2.2.2.2.2.2.2.2.2.1 bt749.2.2.2.2.2.2.2.2.2.2.2.2.1).bind fun t767 => (if t767 = true then ((instance_Same.f bt749.1 bt749.2.1 bt749.2.2.1 bt749.2.2.2.1 bt749.2.2.2.2.1 bt749.2.2.2.2.2.1 bt749.2.2.2.2.2.2.1 bt749.2.2.2.2.2.2.2.1 bt749.2.2.2.2.2.2.2.2.1 bt749.2.2.2.2.2.2.2.2.2.1 bt749.2.2.2.2.2.2.2.2.2.2.1 bt749.2.2.2.2.2.2.2.2.2.2.2.1 bt749.2.2.2.2.2.2.2.2.2.2.2.2.1 a0_0 a0_1 a0_2 a0_3 a0_4 a0_5 a0_6 a0_7 a0_8 a0_9 a0_10 a0_11 l0_12).bind fun t768 => ((instance_Same.f a0_0 a0_1 a0_2 a0_3 a0_4 a0_5 a0_6 a0_7 a0_8 a0_9 a0_10 a0_11 l0_12 bt749.1 bt749.2.1 bt749.2.2.1 bt749.2.2.2.1 bt749.2.2.2.2.1 bt749.2.2.2.2.2.1 bt749.2.2.2.2.2.2.1 bt749.2.2.2.2.2.2.2.1 bt749.2.2.2.2.2.2.2.2.1 bt749.2.2.2.2.2.2.2.2.2.1 bt749.2.2.2.2.2.2.2.2.2.2.1 bt749.2.2.2.2.2.2.2.2.2.2.2.1 bt749.2.2.2.2.2.2.2.2.2.2.2.2.1).bind fun t769 => (some (t768 == t769)))) else (some false))) else (some false)))) else (some true))) = some r := by rw [if_neg (show ¬ (false = true) by decide)] at H; exact H
        clear H
        have H := H1
        clear H1
        replace H := Option.bind_eq_some_iff.mp H
        obtain ⟨t748, A240, H⟩ := H
        replace H : (if t748 = true then ((colloquylaw09_does.f kj6 a0_0 a0_1 a0_2 a0_3 a0_4 a0_5 a0_6 a0_7 a0_8 a0_9 a0_10 a0_11 l0_12 a1_0 a1_1 a1_2 a1_3 a1_4 a1_5 a1_6 a1_7 a1_8 a1_9 l1_10).bind fun bt749 => ((instance_May.f kj6 bt749.1 bt749.2.1 bt749.2.2.1 bt749.2.2.2.1 bt749.2.2.2.2.1 bt749.2.2.2.2.2.1 bt749.2.2.2.2.2.2.1 bt749.2.2.2.2.2.2.2.1 bt749.2.2.2.2.2.2.2.2.1 bt749.2.2.2.2.2.2.2.2.2.1 bt749.2.2.2.2.2.2.2.2.2.2.1 bt749.2.2.2.2.2.2.2.2.2.2.2.1 bt749.2.2.2.2.2.2.2.2.2.2.2.2.1 a2).bind fun t766 => (if t766 = true then ((instance_Same.f bt749.1 bt749.2.1 bt749.2.2.1 bt749.2.2.2.1 bt749.2.2.2.2.1 bt749.2.2.2.2.2.1 bt749.2.2.2.2.2.2.1 bt749.2.2.2.2.2.2.2.1 bt749.2.2.2.2.2.2.2.2.1 bt749.2.2.2.2.2.2.2.2.2.1 bt749.2.2.2.2.2.2.2.2.2.2.1 bt749.2.2.2.2.2.2.2.2.2.2.2.1 bt749.2.2.2.2.2.2.2.2.2.2.2.2.1 bt749.1 bt749.2.1 bt749.2.2.1 bt749.2.2.2.1 bt749.2.2.2.2.1 bt749.2.2.2.2.2.1 bt749.2.2.2.2.2.2.1 bt749.2.2.2.2.2.2.2.1 bt749.2.2.2.2.2.2.2.2.1 bt749.2.2.2.2.2.2.2.2.2.1 bt749.2.2.2.2.2.2.2.2.2.2.1 bt749.2.2.2.2.2.2.2.2.2.2.2.1 bt749.2.2.2.2.2.2.2.2.2.2.2.2.1).bind fun t767 => (if t767 = true then ((instance_Same.f bt749.1 bt749.2.1 bt749.2.2.1 bt749.2.2.2.1 bt749.2.2.2.2.1 bt749.2.2.2.2.2.1 bt749.2.2.2.2.2.2.1 bt749.2.2.2.2.2.2.2.1 bt749.2.2.2.2.2.2.2.2.1 bt749.2.2.2.2.2.2.2.2.2.1 bt749.2.2.2.2.2.2.2.2.2.2.1 bt749.2.2.2.2.2.2.2.2.2.2.2.1 bt749.2.2.2.2.2.2.2.2.2.2.2.2.1 a0_0 a0_1 a0_2 a0_3 a0_4 a0_5 a0_6 a0_7 a0_8 a0_9 a0_10 a0_11 l0_12).bind fun t768 => ((instance_Same.f a0_0 a0_1 a0_2 a0_3 a0_4 a0_5 a0_6 a0_7 a0_8 a0_9 a0_10 a0_11 l0_12 bt749.1 bt749.2.1 bt749.2.2.1 bt749.2.2.2.1 bt749.2.2.2.2.1 bt749.2.2.2.2.2.1 bt749.2.2.2.2.2.2.1 bt749.2.2.2.2.2.2.2.1 bt749.2.2.2.2.2.2.2.2.1 bt749.2.2.2.2.2.2.2.2.2.1 bt749.2.2.2.2.2.2.2.2.2.2.1 bt749.2.2.2.2.2.2.2.2.2.2.2.1 bt749.2.2.2.2.2.2.2.2.2.2.2.2.1).bind fun t769 => (some (t768 == t769)))) else (some false))) else (some false)))) else (some true)) = some r := H
        have A24 := Aside0.mk A240
        clear A240
        by_cases c25 : t748 = true
        · subst c25
          have H1 : ((colloquylaw09_does.f kj6 a0_0 a0_1 a0_2 a0_3 a0_4 a0_5 a0_6 a0_7 a0_8 a0_9 a0_10 a0_11 l0_12 a1_0 a1_1 a1_2 a1_3 a1_4 a1_5 a1_6 a1_7 a1_8 a1_9 l1_10).bind fun bt749 => ((instance_May.f kj6 bt749.1 bt749.2.1 bt749.2.2.1 bt749.2.2.2.1 bt749.2.2.2.2.1 bt749.2.2.2.2.2.1 bt749.2.2.2.2.2.2.1 bt749.2.2.2.2.2.2.2.1 bt749.2.2.2.2.2.2.2.2.1 bt749.2.2.2.2.2.2.2.2.2.1 bt749.2.2.2.2.2.2.2.2.2.2.1 bt749.2.2.2.2.2.2.2.2.2.2.2.1 bt749.2.2.2.2.2.2.2.2.2.2.2.2.1 a2).bind fun t766 => (if t766 = true then ((instance_Same.f bt749.1 bt749.2.1 bt749.2.2.1 bt749.2.2.2.1 bt749.2.2.2.2.1 bt749.2.2.2.2.2.1 bt749.2.2.2.2.2.2.1 bt749.2.2.2.2.2.2.2.1 bt749.2.2.2.2.2.2.2.2.1 bt749.2.2.2.2.2.2.2.2.2.1 bt749.2.2.2.2.2.2.2.2.2.2.1 bt749.2.2.2.2.2.2.2.2.2.2.2.1 bt749.2.2.2.2.2.2.2.2.2.2.2.2.1 bt749.1 bt749.2.1 bt749.2.2.1 bt749.2.2.2.1 bt749.2.2.2.2.1 bt749.2.2.2.2.2.1 bt749.2.2.2.2.2.2.1 bt749.2.2.2.2.2.2.2.1 bt749.2.2.2.2.2.2.2.2.1 bt749.2.2.2.2.2.2.2.2.2.1 bt749.2.2.2.2.2.2.2.2.2.2.1 bt749.2.2.2.2.2.2.2.2.2.2.2.1 bt749.2.2.2.2.2.2.2.2.2.2.2.2.1).bind fun t767 => (if t767 = true then ((instance_Same.f bt749.1 bt749.2.1 bt749.2.2.1 bt749.2.2.2.1 bt749.2.2.2.2.1 bt749.2.2.2.2.2.1 bt749.2.2.2.2.2.2.1 bt749.2.2.2.2.2.2.2.1 bt749.2.2.2.2.2.2.2.2.1 bt749.2.2.2.2.2.2.2.2.2.1 bt749.2.2.2.2.2.2.2.2.2.2.1 bt749.2.2.2.2.2.2.2.2.2.2.2.1 bt749.2.2.2.2.2.2.2.2.2.2.2.2.1 a0_0 a0_1 a0_2 a0_3 a0_4 a0_5 a0_6 a0_7 a0_8 a0_9 a0_10 a0_11 l0_12).bind fun t768 => ((instance_Same.f a0_0 a0_1 a0_2 a0_3 a0_4 a0_5 a0_6 a0_7 a0_8 a0_9 a0_10 a0_11 l0_12 bt749.1 bt749.2.1 bt749.2.2.1 bt749.2.2.2.1 bt749.2.2.2.2.1 bt749.2.2.2.2.2.1 bt749.2.2.2.2.2.2.1 bt749.2.2.2.2.2.2.2.1 bt749.2.2.2.2.2.2.2.2.1 bt749.2.2.2.2.2.2.2.2.2.1 bt749.2.2.2.2.2.2.2.2.2.2.1 bt749.2.2.2.2.2.2.2.2.2.2.2.1 bt749.2.2.2.2.2.2.2.2.2.2.2.2.1).bind fun t769 => (some (t768 == t769)))) else (some false))) else (some false)))) = some r := by rw [if_pos rfl] at H; exact H
          clear H
          have H := H1
          clear H1
          replace H := Option.bind_eq_some_iff.mp H
          obtain ⟨⟨t749, t750, t751, t752, t753, t754, t755, t756, t757, t758, t759, t760, t761, t764⟩, A260, H⟩ := H
          replace H : ((instance_May.f kj6 t749 t750 t751 t752 t753 t754 t755 t756 t757 t758 t759 t760 t761 a2).bind fun t766 => (if t766 = true then ((instance_Same.f t749 t750 t751 t752 t753 t754 t755 t756 t757 t758 t759 t760 t761 t749 t750 t751 t752 t753 t754 t755 t756 t757 t758 t759 t760 t761).bind fun t767 => (if t767 = true then ((instance_Same.f t749 t750 t751 t752 t753 t754 t755 t756 t757 t758 t759 t760 t761 a0_0 a0_1 a0_2 a0_3 a0_4 a0_5 a0_6 a0_7 a0_8 a0_9 a0_10 a0_11 l0_12).bind fun t768 => ((instance_Same.f a0_0 a0_1 a0_2 a0_3 a0_4 a0_5 a0_6 a0_7 a0_8 a0_9 a0_10 a0_11 l0_12 t749 t750 t751 t752 t753 t754 t755 t756 t757 t758 t759 t760 t761).bind fun t769 => (some (t768 == t769)))) else (some false))) else (some false))) = some r := H
          have A26 := Aside0.mk A260
          clear A260
          replace H := Option.bind_eq_some_iff.mp H
          obtain ⟨t766, A270, H⟩ := H
          replace H : (if t766 = true then ((instance_Same.f t749 t750 t751 t752 t753 t754 t755 t756 t757 t758 t759 t760 t761 t749 t750 t751 t752 t753 t754 t755 t756 t757 t758 t759 t760 t761).bind fun t767 => (if t767 = true then ((instance_Same.f t749 t750 t751 t752 t753 t754 t755 t756 t757 t758 t759 t760 t761 a0_0 a0_1 a0_2 a0_3 a0_4 a0_5 a0_6 a0_7 a0_8 a0_9 a0_10 a0_11 l0_12).bind fun t768 => ((instance_Same.f a0_0 a0_1 a0_2 a0_3 a0_4 a0_5 a0_6 a0_7 a0_8 a0_9 a0_10 a0_11 l0_12 t749 t750 t751 t752 t753 t754 t755 t756 t757 t758 t759 t760 t761).bind fun t769 => (some (t768 == t769)))) else (some false))) else (some false)) = some r := H
          have A27 := Aside0.mk A270
          clear A270
          by_cases c28 : t766 = true
          · subst c28
            have H1 : ((instance_Same.f t749 t750 t751 t752 t753 t754 t755 t756 t757 t758 t759 t760 t761 t749 t750 t751 t752 t753 t754 t755 t756 t757 t758 t759 t760 t761).bind fun t767 => (if t767 = true then ((instance_Same.f t749 t750 t751 t752 t753 t754 t755 t756 t757 t758 t759 t760 t761 a0_0 a0_1 a0_2 a0_3 a0_4 a0_5 a0_6 a0_7 a0_8 a0_9 a0_10 a0_11 l0_12).bind fun t768 => ((instance_Same.f a0_0 a0_1 a0_2 a0_3 a0_4 a0_5 a0_6 a0_7 a0_8 a0_9 a0_10 a0_11 l0_12 t749 t750 t751 t752 t753 t754 t755 t756 t757 t758 t759 t760 t761).bind fun t769 => (some (t768 == t769)))) else (some false))) = some r := by rw [if_pos rfl] at H; exact H
            clear H
            have H := H1
            clear H1
            replace H := Option.bind_eq_some_iff.mp H
            obtain ⟨t767, A290, H⟩ := H
            replace H : (if t767 = true then ((instance_Same.f t749 t750 t751 t752 t753 t754 t755 t756 t757 t758 t759 t760 t761 a0_0 a0_1 a0_2 a0_3 a0_4 a0_5 a0_6 a0_7 a0_8 a0_9 a0_10 a0_11 l0_12).bind fun t768 => ((instance_Same.f a0_0 a0_1 a0_2 a0_3 a0_4 a0_5 a0_6 a0_7 a0_8 a0_9 a0_10 a0_11 l0_12 t749 t750 t751 t752 t753 t754 t755 t756 t757 t758 t759 t760 t761).bind fun t769 => (some (t768 == t769)))) else (some false)) = some r := H
            have A29 := Aside0.mk A290
            clear A290
            by_cases c30 : t767 = true
            · subst c30
              have H1 : ((instance_Same.f t749 t750 t751 t752 t753 t754 t755 t756 t757 t758 t759 t760 t761 a0_0 a0_1 a0_2 a0_3 a0_4 a0_5 a0_6 a0_7 a0_8 a0_9 a0_10 a0_11 l0_12).bind fun t768 => ((instance_Same.f a0_0 a0_1 a0_2 a0_3 a0_4 a0_5 a0_6 a0_7 a0_8 a0_9 a0_10 a0_11 l0_12 t749 t750 t751 t752 t753 t754 t755 t756 t757 t758 t759 t760 t761).bind fun t769 => (some (t768 == t769)))) = some r := by rw [if_pos rfl] at H; exact H
              clear H
              have H := H1
              clear H1
              replace H := Option.bind_eq_some_iff.mp H
              obtain ⟨t768, A310, H⟩ := H
              replace H : ((instance_Same.f a0_0 a0_1 a0_2 a0_3 a0_4 a0_5 a0_6 a0_7 a0_8 a0_9 a0_10 a0_11 l0_12 t749 t750 t751 t752 t753 t754 t755 t756 t757 t758 t759 t760 t761).bind fun t769 => (some (t768 == t769))) = some r := H
              have A31 := Aside0.mk A310
              clear A310
              replace H := Option.bind_eq_some_iff.mp H
              obtain ⟨t769, A320, H⟩ := H
              replace H : (some (t768 == t769)) = some r := H
              have A32 := Aside0.mk A320
              clear A320
              obtain rfl := Option.some.inj H
              have hnb33 := NB742_741.out
              have hnc33 := NB741_742.out
              have hcz34_0 : wc.cell? ⟨gb742, 0, none⟩ = some (.int .i64 a1_0) := (blk_cell BK742.out 0).trans rfl
              have hcz34_1 : wc.cell? ⟨gb742, 1, none⟩ = some (.int .i64 a1_1) := (blk_cell BK742.out 1).trans rfl
              have hcz34_2 : wc.cell? ⟨gb742, 2, none⟩ = some (.int .i64 a1_2) := (blk_cell BK742.out 2).trans rfl
              have hcz34_3 : wc.cell? ⟨gb742, 3, none⟩ = some (.int .i64 a1_3) := (blk_cell BK742.out 3).trans rfl
              have hcz34_4 : wc.cell? ⟨gb742, 4, none⟩ = some (.int .i64 a1_4) := (blk_cell BK742.out 4).trans rfl
              have hcz34_5 : wc.cell? ⟨gb742, 5, none⟩ = some (.int .i64 a1_5) := (blk_cell BK742.out 5).trans rfl
              have hcz34_6 : wc.cell? ⟨gb742, 6, none⟩ = some (.int .i64 a1_6) := (blk_cell BK742.out 6).trans rfl
              have hcz34_7 : wc.cell? ⟨gb742, 7, none⟩ = some (.int .i64 a1_7) := (blk_cell BK742.out 7).trans rfl
              have hcz34_8 : wc.cell? ⟨gb742, 8, none⟩ = some (.string a1_8) := (blk_cell BK742.out 8).trans rfl
              have hcz34_9 : wc.cell? ⟨gb742, 9, none⟩ = some (.int .i64 a1_9) := (blk_cell BK742.out 9).trans rfl
              have hcz34_10 : wc.cell? ⟨gb742, 10, none⟩ = some (.slice A1_10 l1_10.length c1_10) := (blk_cell BK742.out 10).trans rfl
              have hfz34_0 := blk_frozen BK742.out 0
              have hfz34_1 := blk_frozen BK742.out 1
              have hfz34_2 := blk_frozen BK742.out 2
              have hfz34_3 := blk_frozen BK742.out 3
              have hfz34_4 := blk_frozen BK742.out 4
              have hfz34_5 := blk_frozen BK742.out 5
              have hfz34_6 := blk_frozen BK742.out 6
              have hfz34_7 := blk_frozen BK742.out 7
              have hfz34_8 := blk_frozen BK742.out 8
              have hfz34_9 := blk_frozen BK742.out 9
              have hfz34_10 := blk_frozen BK742.out 10
              try go_wp2_with (first | ((with_reducible refine gate_dst (N := 10) rfl ?_); refine box_event ?hg (N := 10) ?hd (cs := #[.int .i64 0, .int .i64 0, .int .i64 0, .int .i64 0, .int .i64 0, .int .i64 0, .int .i64 0, .int .i64 0, .int .i64 0, .int .i64 0, .string (⟨#[]⟩ : ByteArray), .int .i64 0, .slice none 0 0]) (t := 32) ?hr ?_; (case hd => rfl); (case hg => rfl); (case hr => first | (go_simp; done) | (go_simp; rfl)); intro gb747 hg w35 hbox hb; have n0_ := Aside0.mk (blk_below (g := gb741) (by (with_reducible repeat (first | refine blk_drewN ?_ _ | refine blk_drew ?_ | refine blk_alloc ?_ _)); exact BK741.out) hb); have n1_ := Aside0.mk (blk_below (g := gb742) (by (with_reducible repeat (first | refine blk_drewN ?_ _ | refine blk_drew ?_ | refine blk_alloc ?_ _)); exact BK742.out) hb); have n2_ := Aside0.mk (below_step (by repeat (first | (with_reducible first | exact HB.out | apply below_alloc | apply pw_below_drewN | apply below_drew1 | refine below_set ?_ GE741.out | refine below_set ?_ GE742.out) | exact HB.out)) hb); have n3_ := Aside0.mk (hbox); have n4_ := Aside0.mk ((by rw [hg]; exact (below_size (by repeat (first | (with_reducible first | exact HB.out | apply below_alloc | apply pw_below_drewN | apply below_drew1 | refine below_set ?_ GE741.out | refine below_set ?_ GE742.out) | exact HB.out))) : w.heap.size ≤ gb747)); have n5_ := Aside0.mk ((by rw [hg]; exact (below_size (by repeat (first | (with_reducible first | exact HB.out | apply below_alloc | apply pw_below_drewN | apply below_drew1 | refine below_set ?_ GE741.out | refine below_set ?_ GE742.out) | exact HB.out))) : w.heap.size ≤ gb747)); have n6_ := Aside0.mk ((by rw [hg]; exact Nat.ne_of_lt (blk_lt (g := gb741) (by (with_reducible repeat (first | refine blk_drewN ?_ _ | refine blk_drew ?_ | refine blk_alloc ?_ _)); exact BK741.out)) : gb741 ≠ gb747)); have n7_ := Aside0.mk ((by rw [hg]; exact Nat.ne_of_gt (blk_lt (g := gb741) (by (with_reducible repeat (first | refine blk_drewN ?_ _ | refine blk_drew ?_ | refine blk_alloc ?_ _)); exact BK741.out)) : gb747 ≠ gb741)); have n8_ := Aside0.mk ((by rw [hg]; exact Nat.ne_of_lt (blk_lt (g := gb742) (by (with_reducible repeat (first | refine blk_drewN ?_ _ | refine blk_drew ?_ | refine blk_alloc ?_ _)); exact BK742.out)) : gb742 ≠ gb747)); have n9_ := Aside0.mk ((by rw [hg]; exact Nat.ne_of_gt (blk_lt (g := gb742) (by (with_reducible repeat (first | refine blk_drewN ?_ _ | refine blk_drew ?_ | refine blk_alloc ?_ _)); exact BK742.out)) : gb747 ≠ gb742)); clear BK741; clear BK742; clear HB; have BK741 := n0_; have BK742 := n1_; have HB := n2_; have BK747 := n3_; have GW747 := n4_; have GE747 := n5_; have NB741_747 := n6_; have NB747_741 := n7_; have NB742_747 := n8_; have NB747_742 := n9_; clear n0_ n1_ n2_ n3_ n4_ n5_ n6_ n7_ n8_ n9_; clear hb hbox hg; have hnb36 := NB747_741.out; have hnc36 := NB741_747.out; have hnb37 := NB747_742.out; have hnc37 := NB742_747.out; have hcz38_0 : w35.cell? ⟨gb747, 0, none⟩ = some (.int .i64 0) := (blk_cell BK747.out 0).trans rfl; have hcz38_1 : w35.cell? ⟨gb747, 1, none⟩ = some (.int .i64 0) := (blk_cell BK747.out 1).trans rfl; have hcz38_2 : w35.cell? ⟨gb747, 2, none⟩ = some (.int .i64 0) := (blk_cell BK747.out 2).trans rfl; have hcz38_3 : w35.cell? ⟨gb747, 3, none⟩ = some (.int .i64 0) := (blk_cell BK747.out 3).trans rfl; have hcz38_4 : w35.cell? ⟨gb747, 4, none⟩ = some (.int .i64 0) := (blk_cell BK747.out 4).trans rfl; have hcz38_5 : w35.cell? ⟨gb747, 5, none⟩ = some (.int .i64 0) := (blk_cell BK747.out 5).trans rfl; have hcz38_6 : w35.cell? ⟨gb747, 6, none⟩ = some (.int .i64 0) := (blk_cell BK747.out 6).trans rfl; have hcz38_7 : w35.cell? ⟨gb747, 7, none⟩ = some (.int .i64 0) := (blk_cell BK747.out 7).trans rfl; have hcz38_8 : w35.cell? ⟨gb747, 8, none⟩ = some (.int .i64 0) := (blk_cell BK747.out 8).trans rfl; have hcz38_9 : w35.cell? ⟨gb747, 9, none⟩ = some (.int .i64 0) := (blk_cell BK747.out 9).trans rfl; have hcz38_10 : w35.cell? ⟨gb747, 10, none⟩ = some (.string (⟨#[]⟩ : ByteArray)) := (blk_cell BK747.out 10).trans rfl; have hcz38_11 : w35.cell? ⟨gb747, 11, none⟩ = some (.int .i64 0) := (blk_cell BK747.out 11).trans rfl; have hcz38_12 : w35.cell? ⟨gb747, 12, none⟩ = some (.slice none 0 0) := (blk_cell BK747.out 12).trans rfl; have hfz38_0 := blk_frozen BK747.out 0; have hfz38_1 := blk_frozen BK747.out 1; have hfz38_2 := blk_frozen BK747.out 2; have hfz38_3 := blk_frozen BK747.out 3; have hfz38_4 := blk_frozen BK747.out 4; have hfz38_5 := blk_frozen BK747.out 5; have hfz38_6 := blk_frozen BK747.out 6; have hfz38_7 := blk_frozen BK747.out 7; have hfz38_8 := blk_frozen BK747.out 8; have hfz38_9 := blk_frozen BK747.out 9; have hfz38_10 := blk_frozen BK747.out 10; have hfz38_11 := blk_frozen BK747.out 11; have hfz38_12 := blk_frozen BK747.out 12) | ((with_reducible refine gate_callee (f := 16) rfl ?_); refine goesL_ (some 45) rfl rfl Try.func16 (by kernel_rfl) rfl #[.agg #[.int .i64 2, .int .i64 0, .int .i64 1, .int .i64 0, .int .i64 1, .int .i64 a1_3, .int .i64 a1_4, .int .i64 a1_5, .int .i64 a1_6, .int .i64 a1_7, .string a1_8, .int .i64 a1_9, .slice A1_10 l1_10.length c1_10], .int .i64 a2] rfl (by (try simp only [List.map_toArray, List.map_cons, List.map_nil]); first | done | rfl | (simp only [List.length_drop, List.length_take]; rfl)) ?_; (with_reducible refine (instance_May.calls kj6 2 0 1 0 1 a1_3 a1_4 a1_5 a1_6 a1_7 a1_8 a1_9 _ _ l1_10 a2 true _ ?side1 ?side2 A24.out).mono ?_); (case side1 => exact Kd.C_below HR1_10.out (by repeat (first | (with_reducible first | exact HB.out | apply below_alloc | apply pw_below_drewN | apply below_drew1 | refine below_set ?_ GE741.out | refine below_set ?_ GE742.out | refine below_set ?_ GE747.out) | exact HB.out))); (case side2 => exact HC1_10.out); rintro e w39 ⟨rfl, hb⟩; refine ⟨_, rfl, ?_⟩; have n0_ := Aside0.mk (blk_below (g := gb741) (o := .cells #[.int .i64 a0_0, .int .i64 a0_1, .int .i64 a0_2, .int .i64 a0_3, .int .i64 a0_4, .int .i64 a0_5, .int .i64 a0_6, .int .i64 a0_7, .int .i64 a0_8, .int .i64 a0_9, .string a0_10, .int .i64 a0_11, .slice A0_12 l0_12.length c0_12] 32 (0, 0)) (by (with_reducible repeat (first | refine blk_drewN ?_ _ | refine blk_drew ?_ | refine blk_alloc ?_ _)); (iterate 13 (refine blk_far ?_ NB741_747.out _)); (with_reducible repeat (first | refine blk_drewN ?_ _ | refine blk_drew ?_ | refine blk_alloc ?_ _)); exact BK741.out) hb); have n1_ := Aside0.mk (blk_below (g := gb742) (o := .cells #[.int .i64 a1_0, .int .i64 a1_1, .int .i64 a1_2, .int .i64 a1_3, .int .i64 a1_4, .int .i64 a1_5, .int .i64 a1_6, .int .i64 a1_7, .string a1_8, .int .i64 a1_9, .slice A1_10 l1_10.length c1_10] 35 (0, 0)) (by (with_reducible repeat (first | refine blk_drewN ?_ _ | refine blk_drew ?_ | refine blk_alloc ?_ _)); (iterate 13 (refine blk_far ?_ NB742_747.out _)); (with_reducible repeat (first | refine blk_drewN ?_ _ | refine blk_drew ?_ | refine blk_alloc ?_ _)); exact BK742.out) hb); have n2_ := Aside0.mk (blk_below (g := gb747) (o := .cells #[.int .i64 2, .int .i64 0, .int .i64 1, .int .i64 0, .int .i64 1, .int .i64 a1_3, .int .i64 a1_4, .int .i64 a1_5, .int .i64 a1_6, .int .i64 a1_7, .string a1_8, .int .i64 a1_9, .slice A1_10 l1_10.length c1_10] 32 (0, 0)) (by (with_reducible repeat (first | refine blk_drewN ?_ _ | refine blk_drew ?_ | refine blk_alloc ?_ _)); refine blk_put13 (cs := #[.int .i64 0, .int .i64 0, .int .i64 0, .int .i64 0, .int .i64 0, .int .i64 0, .int .i64 0, .int .i64 0, .int .i64 0, .int .i64 0, .string (⟨#[]⟩ : ByteArray), .int .i64 0, .slice none 0 0]) ?_ rfl; (with_reducible repeat (first | refine blk_drewN ?_ _ | refine blk_drew ?_ | refine blk_alloc ?_ _)); exact BK747.out) hb); have n3_ := Aside0.mk (below_step (by repeat (first | (with_reducible first | exact HB.out | apply below_alloc | apply pw_below_drewN | apply below_drew1 | refine below_set ?_ GE741.out | refine below_set ?_ GE742.out | refine below_set ?_ GE747.out) | exact HB.out)) hb); clear BK741; clear BK742; clear BK747; clear HB; have BK741 := n0_; have BK742 := n1_; have BK747 := n2_; have HB := n3_; clear n0_ n1_ n2_ n3_; (try clear hb); (try clear hb2); (try clear hk); (try clear hi); have hcz40_0 : w39.cell? ⟨gb741, 0, none⟩ = some (.int .i64 a0_0) := (blk_cell BK741.out 0).trans rfl; have hcz40_1 : w39.cell? ⟨gb741, 1, none⟩ = some (.int .i64 a0_1) := (blk_cell BK741.out 1).trans rfl; have hcz40_2 : w39.cell? ⟨gb741, 2, none⟩ = some (.int .i64 a0_2) := (blk_cell BK741.out 2).trans rfl; have hcz40_3 : w39.cell? ⟨gb741, 3, none⟩ = some (.int .i64 a0_3) := (blk_cell BK741.out 3).trans rfl; have hcz40_4 : w39.cell? ⟨gb741, 4, none⟩ = some (.int .i64 a0_4) := (blk_cell BK741.out 4).trans rfl; have hcz40_5 : w39.cell? ⟨gb741, 5, none⟩ = some (.int .i64 a0_5) := (blk_cell BK741.out 5).trans rfl; have hcz40_6 : w39.cell? ⟨gb741, 6, none⟩ = some (.int .i64 a0_6) := (blk_cell BK741.out 6).trans rfl; have hcz40_7 : w39.cell? ⟨gb741, 7, none⟩ = some (.int .i64 a0_7) := (blk_cell BK741.out 7).trans rfl; have hcz40_8 : w39.cell? ⟨gb741, 8, none⟩ = some (.int .i64 a0_8) := (blk_cell BK741.out 8).trans rfl; have hcz40_9 : w39.cell? ⟨gb741, 9, none⟩ = some (.int .i64 a0_9) := (blk_cell BK741.out 9).trans rfl; have hcz40_10 : w39.cell? ⟨gb741, 10, none⟩ = some (.string a0_10) := (blk_cell BK741.out 10).trans rfl; have hcz40_11 : w39.cell? ⟨gb741, 11, none⟩ = some (.int .i64 a0_11) := (blk_cell BK741.out 11).trans rfl; have hcz40_12 : w39.cell? ⟨gb741, 12, none⟩ = some (.slice A0_12 l0_12.length c0_12) := (blk_cell BK741.out 12).trans rfl; have hfz40_0 := blk_frozen BK741.out 0; have hfz40_1 := blk_frozen BK741.out 1; have hfz40_2 := blk_frozen BK741.out 2; have hfz40_3 := blk_frozen BK741.out 3; have hfz40_4 := blk_frozen BK741.out 4; have hfz40_5 := blk_frozen BK741.out 5; have hfz40_6 := blk_frozen BK741.out 6; have hfz40_7 := blk_frozen BK741.out 7; have hfz40_8 := blk_frozen BK741.out 8; have hfz40_9 := blk_frozen BK741.out 9; have hfz40_10 := blk_frozen BK741.out 10; have hfz40_11 := blk_frozen BK741.out 11; have hfz40_12 := blk_frozen BK741.out 12; have hcz41_0 : w39.cell? ⟨gb742, 0, none⟩ = some (.int .i64 a1_0) := (blk_cell BK742.out 0).trans rfl; have hcz41_1 : w39.cell? ⟨gb742, 1, none⟩ = some (.int .i64 a1_1) := (blk_cell BK742.out 1).trans rfl; have hcz41_2 : w39.cell? ⟨gb742, 2, none⟩ = some (.int .i64 a1_2) := (blk_cell BK742.out 2).trans rfl; have hcz41_3 : w39.cell? ⟨gb742, 3, none⟩ = some (.int .i64 a1_3) := (blk_cell BK742.out 3).trans rfl; have hcz41_4 : w39.cell? ⟨gb742, 4, none⟩ = some (.int .i64 a1_4) := (blk_cell BK742.out 4).trans rfl; have hcz41_5 : w39.cell? ⟨gb742, 5, none⟩ = some (.int .i64 a1_5) := (blk_cell BK742.out 5).trans rfl; have hcz41_6 : w39.cell? ⟨gb742, 6, none⟩ = some (.int .i64 a1_6) := (blk_cell BK742.out 6).trans rfl; have hcz41_7 : w39.cell? ⟨gb742, 7, none⟩ = some (.int .i64 a1_7) := (blk_cell BK742.out 7).trans rfl; have hcz41_8 : w39.cell? ⟨gb742, 8, none⟩ = some (.string a1_8) := (blk_cell BK742.out 8).trans rfl; have hcz41_9 : w39.cell? ⟨gb742, 9, none⟩ = some (.int .i64 a1_9) := (blk_cell BK742.out 9).trans rfl; have hcz41_10 : w39.cell? ⟨gb742, 10, none⟩ = some (.slice A1_10 l1_10.length c1_10) := (blk_cell BK742.out 10).trans rfl; have hfz41_0 := blk_frozen BK742.out 0; have hfz41_1 := blk_frozen BK742.out 1; have hfz41_2 := blk_frozen BK742.out 2; have hfz41_3 := blk_frozen BK742.out 3; have hfz41_4 := blk_frozen BK742.out 4; have hfz41_5 := blk_frozen BK742.out 5; have hfz41_6 := blk_frozen BK742.out 6; have hfz41_7 := blk_frozen BK742.out 7; have hfz41_8 := blk_frozen BK742.out 8; have hfz41_9 := blk_frozen BK742.out 9; have hfz41_10 := blk_frozen BK742.out 10) | ((with_reducible refine gate_callee (f := 10) rfl ?_); refine goesL_ (some 50) rfl rfl Try.func10 (by kernel_rfl) rfl #[.agg #[.int .i64 a0_0, .int .i64 a0_1, .int .i64 a0_2, .int .i64 a0_3, .int .i64 a0_4, .int .i64 a0_5, .int .i64 a0_6, .int .i64 a0_7, .int .i64 a0_8, .int .i64 a0_9, .string a0_10, .int .i64 a0_11, .slice A0_12 l0_12.length c0_12], .agg #[.int .i64 a1_0, .int .i64 a1_1, .int .i64 a1_2, .int .i64 a1_3, .int .i64 a1_4, .int .i64 a1_5, .int .i64 a1_6, .int .i64 a1_7, .string a1_8, .int .i64 a1_9, .slice A1_10 l1_10.length c1_10]] rfl (by (try simp only [List.map_toArray, List.map_cons, List.map_nil]); first | done | rfl | (simp only [List.length_drop, List.length_take]; rfl)) ?_; (with_reducible refine (colloquylaw09_does.calls kj6 a0_0 a0_1 a0_2 a0_3 a0_4 a0_5 a0_6 a0_7 a0_8 a0_9 a0_10 a0_11 _ _ l0_12 a1_0 a1_1 a1_2 a1_3 a1_4 a1_5 a1_6 a1_7 a1_8 a1_9 _ _ l1_10 t749 t750 t751 t752 t753 t754 t755 t756 t757 t758 t759 t760 t761 t764 _ ?side1 ?side2 ?side3 ?side4 A26.out).mono ?_); (case side1 => repeat (first | exact (Kd.C_below HR0_12.out HB.out) | (with_reducible refine Kd.C_alloc ?_ _) | (with_reducible refine Kd.C_drewN ?_ _) | (with_reducible refine Kd.C_drew ?_))); (case side2 => exact HC0_12.out); (case side3 => repeat (first | exact (Kd.C_below HR1_10.out HB.out) | (with_reducible refine Kd.C_alloc ?_ _) | (with_reducible refine Kd.C_drewN ?_ _) | (with_reducible refine Kd.C_drew ?_))); (case side4 => exact HC1_10.out); rintro e w42 ⟨v762, rfl, ho0, hb⟩; refine ⟨_, rfl, ?_⟩; have n0_ := Aside0.mk (Kd.R_lower ho0 (below_size (by repeat (first | (with_reducible first | exact HB.out | apply below_alloc | apply pw_below_drewN | apply below_drew1 | refine below_set ?_ GE741.out | refine below_set ?_ GE742.out | refine below_set ?_ GE747.out) | exact HB.out)))); have n1_ := Aside0.mk (blk_below (g := gb741) (by (with_reducible repeat (first | refine blk_drewN ?_ _ | refine blk_drew ?_ | refine blk_alloc ?_ _)); exact BK741.out) hb); have n2_ := Aside0.mk (blk_below (g := gb742) (by (with_reducible repeat (first | refine blk_drewN ?_ _ | refine blk_drew ?_ | refine blk_alloc ?_ _)); exact BK742.out) hb); have n3_ := Aside0.mk (blk_below (g := gb747) (by (with_reducible repeat (first | refine blk_drewN ?_ _ | refine blk_drew ?_ | refine blk_alloc ?_ _)); exact BK747.out) hb); have n4_ := Aside0.mk (below_step (by repeat (first | (with_reducible first | exact HB.out | apply below_alloc | apply pw_below_drewN | apply below_drew1 | refine below_set ?_ GE741.out | refine below_set ?_ GE742.out | refine below_set ?_ GE747.out) | exact HB.out)) hb); clear BK741; clear BK742; clear BK747; clear HB; have HO763 := n0_; have BK741 := n1_; have BK742 := n2_; have BK747 := n3_; have HB := n4_; clear n0_ n1_ n2_ n3_ n4_; (try clear hb); (try clear hb2); (try clear hk); (try clear hi); (try clear ho0)) | ((with_reducible refine gate_dst (N := 11) rfl ?_); refine box_event ?hg (N := 11) ?hd (cs := #[.int .i64 0, .int .i64 0, .int .i64 0, .int .i64 0, .int .i64 0, .int .i64 0, .int .i64 0, .int .i64 0, .int .i64 0, .int .i64 0, .string (⟨#[]⟩ : ByteArray), .int .i64 0, .slice none 0 0]) (t := 32) ?hr ?_; (case hd => rfl); (case hg => rfl); (case hr => first | (go_simp; done) | (go_simp; rfl)); intro gb765 hg w43 hbox hb; have n0_ := Aside0.mk (Kd.R_below (by (with_reducible repeat (first | apply Kd.R_alloc | apply Kd.R_drewN | apply Kd.R_drew)); exact HO763.out) hb); have n1_ := Aside0.mk (blk_below (g := gb741) (by (with_reducible repeat (first | refine blk_drewN ?_ _ | refine blk_drew ?_ | refine blk_alloc ?_ _)); exact BK741.out) hb); have n2_ := Aside0.mk (blk_below (g := gb742) (by (with_reducible repeat (first | refine blk_drewN ?_ _ | refine blk_drew ?_ | refine blk_alloc ?_ _)); exact BK742.out) hb); have n3_ := Aside0.mk (blk_below (g := gb747) (by (with_reducible repeat (first | refine blk_drewN ?_ _ | refine blk_drew ?_ | refine blk_alloc ?_ _)); exact BK747.out) hb); have n4_ := Aside0.mk (below_step (by repeat (first | (with_reducible first | exact HB.out | apply below_alloc | apply pw_below_drewN | apply below_drew1 | refine below_set ?_ GE741.out | refine below_set ?_ GE742.out | refine below_set ?_ GE747.out) | exact HB.out)) hb); have n5_ := Aside0.mk (hbox); have n6_ := Aside0.mk ((by rw [hg]; exact (below_size (by repeat (first | (with_reducible first | exact HB.out | apply below_alloc | apply pw_below_drewN | apply below_drew1 | refine below_set ?_ GE741.out | refine below_set ?_ GE742.out | refine below_set ?_ GE747.out) | exact HB.out))) : w.heap.size ≤ gb765)); have n7_ := Aside0.mk ((by rw [hg]; exact (below_size (by repeat (first | (with_reducible first | exact HB.out | apply below_alloc | apply pw_below_drewN | apply below_drew1 | refine below_set ?_ GE741.out | refine below_set ?_ GE742.out | refine below_set ?_ GE747.out) | exact HB.out))) : w.heap.size ≤ gb765)); have n8_ := Aside0.mk ((by rw [hg]; exact Nat.ne_of_lt (blk_lt (g := gb741) (by (with_reducible repeat (first | refine blk_drewN ?_ _ | refine blk_drew ?_ | refine blk_alloc ?_ _)); exact BK741.out)) : gb741 ≠ gb765)); have n9_ := Aside0.mk ((by rw [hg]; exact Nat.ne_of_gt (blk_lt (g := gb741) (by (with_reducible repeat (first | refine blk_drewN ?_ _ | refine blk_drew ?_ | refine blk_alloc ?_ _)); exact BK741.out)) : gb765 ≠ gb741)); have n10_ := Aside0.mk ((by rw [hg]; exact Nat.ne_of_lt (blk_lt (g := gb742) (by (with_reducible repeat (first | refine blk_drewN ?_ _ | refine blk_drew ?_ | refine blk_alloc ?_ _)); exact BK742.out)) : gb742 ≠ gb765)); have n11_ := Aside0.mk ((by rw [hg]; exact Nat.ne_of_gt (blk_lt (g := gb742) (by (with_reducible repeat (first | refine blk_drewN ?_ _ | refine blk_drew ?_ | refine blk_alloc ?_ _)); exact BK742.out)) : gb765 ≠ gb742)); have n12_ := Aside0.mk ((by rw [hg]; exact Nat.ne_of_lt (blk_lt (g := gb747) (by (with_reducible repeat (first | refine blk_drewN ?_ _ | refine blk_drew ?_ | refine blk_alloc ?_ _)); exact BK747.out)) : gb747 ≠ gb765)); have n13_ := Aside0.mk ((by rw [hg]; exact Nat.ne_of_gt (blk_lt (g := gb747) (by (with_reducible repeat (first | refine blk_drewN ?_ _ | refine blk_drew ?_ | refine blk_alloc ?_ _)); exact BK747.out)) : gb765 ≠ gb747)); clear HO763; clear BK741; clear BK742; clear BK747; clear HB; have HO763 := n0_; have BK741 := n1_; have BK742 := n2_; have BK747 := n3_; have HB := n4_; have BK765 := n5_; have GW765 := n6_; have GE765 := n7_; have NB741_765 := n8_; have NB765_741 := n9_; have NB742_765 := n10_; have NB765_742 := n11_; have NB747_765 := n12_; have NB765_747 := n13_; clear n0_ n1_ n2_ n3_ n4_ n5_ n6_ n7_ n8_ n9_ n10_ n11_ n12_ n13_; clear hb hbox hg; have hnb44 := NB765_741.out; have hnc44 := NB741_765.out; have hnb45 := NB765_742.out; have hnc45 := NB742_765.out; have hnb46 := NB765_747.out; have hnc46 := NB747_765.out; have hcz47_0 : w43.cell? ⟨gb765, 0, none⟩ = some (.int .i64 0) := (blk_cell BK765.out 0).trans rfl; have hcz47_1 : w43.cell? ⟨gb765, 1, none⟩ = some (.int .i64 0) := (blk_cell BK765.out 1).trans rfl; have hcz47_2 : w43.cell? ⟨gb765, 2, none⟩ = some (.int .i64 0) := (blk_cell BK765.out 2).trans rfl; have hcz47_3 : w43.cell? ⟨gb765, 3, none⟩ = some (.int .i64 0) := (blk_cell BK765.out 3).trans rfl; have hcz47_4 : w43.cell? ⟨gb765, 4, none⟩ = some (.int .i64 0) := (blk_cell BK765.out 4).trans rfl; have hcz47_5 : w43.cell? ⟨gb765, 5, none⟩ = some (.int .i64 0) := (blk_cell BK765.out 5).trans rfl; have hcz47_6 : w43.cell? ⟨gb765, 6, none⟩ = some (.int .i64 0) := (blk_cell BK765.out 6).trans rfl; have hcz47_7 : w43.cell? ⟨gb765, 7, none⟩ = some (.int .i64 0) := (blk_cell BK765.out 7).trans rfl; have hcz47_8 : w43.cell? ⟨gb765, 8, none⟩ = some (.int .i64 0) := (blk_cell BK765.out 8).trans rfl; have hcz47_9 : w43.cell? ⟨gb765, 9, none⟩ = some (.int .i64 0) := (blk_cell BK765.out 9).trans rfl; have hcz47_10 : w43.cell? ⟨gb765, 10, none⟩ = some (.string (⟨#[]⟩ : ByteArray)) := (blk_cell BK765.out 10).trans rfl; have hcz47_11 : w43.cell? ⟨gb765, 11, none⟩ = some (.int .i64 0) := (blk_cell BK765.out 11).trans rfl; have hcz47_12 : w43.cell? ⟨gb765, 12, none⟩ = some (.slice none 0 0) := (blk_cell BK765.out 12).trans rfl; have hfz47_0 := blk_frozen BK765.out 0; have hfz47_1 := blk_frozen BK765.out 1; have hfz47_2 := blk_frozen BK765.out 2; have hfz47_3 := blk_frozen BK765.out 3; have hfz47_4 := blk_frozen BK765.out 4; have hfz47_5 := blk_frozen BK765.out 5; have hfz47_6 := blk_frozen BK765.out 6; have hfz47_7 := blk_frozen BK765.out 7; have hfz47_8 := blk_frozen BK765.out 8; have hfz47_9 := blk_frozen BK765.out 9; have hfz47_10 := blk_frozen BK765.out 10; have hfz47_11 := blk_frozen BK765.out 11; have hfz47_12 := blk_frozen BK765.out 12; obtain ⟨Ao48, co48, eo48⟩ := Kd.R_slice HO763.out; subst eo48))
              have n0_ : Aside0 (Kd.R (Kd.int .i64) 3 (((((((((((((w43.setCell ⟨gb765, 0, none⟩ (.int .i64 t749)).setCell ⟨gb765, 1, none⟩ (.int .i64 t750)).setCell ⟨gb765, 2, none⟩ (.int .i64 t751)).setCell ⟨gb765, 3, none⟩ (.int .i64 t752)).setCell ⟨gb765, 4, none⟩ (.int .i64 t753)).setCell ⟨gb765, 5, none⟩ (.int .i64 t754)).setCell ⟨gb765, 6, none⟩ (.int .i64 t755)).setCell ⟨gb765, 7, none⟩ (.int .i64 t756)).setCell ⟨gb765, 8, none⟩ (.int .i64 t757)).setCell ⟨gb765, 9, none⟩ (.int .i64 t758)).setCell ⟨gb765, 10, none⟩ (.string t759)).setCell ⟨gb765, 11, none⟩ (.int .i64 t760)).setCell ⟨gb765, 12, none⟩ (.slice Ao48 t761.length co48)) w.heap.size (fun _ => True) (.slice Ao48 t761.length co48) t761) := ⟨by (with_reducible repeat (first | apply Kd.R_alloc | apply Kd.R_drewN | apply Kd.R_drew)); exact Kd.R_mono (Kd.R_far13 (g := gb765) (Kd.R_types HO763.out BK765.out (by decide)) (fun _ hk => hk.2)) (fun _ hk => trivial)⟩
              have n1_ : Aside0 ((((((((((((((w43.setCell ⟨gb765, 0, none⟩ (.int .i64 t749)).setCell ⟨gb765, 1, none⟩ (.int .i64 t750)).setCell ⟨gb765, 2, none⟩ (.int .i64 t751)).setCell ⟨gb765, 3, none⟩ (.int .i64 t752)).setCell ⟨gb765, 4, none⟩ (.int .i64 t753)).setCell ⟨gb765, 5, none⟩ (.int .i64 t754)).setCell ⟨gb765, 6, none⟩ (.int .i64 t755)).setCell ⟨gb765, 7, none⟩ (.int .i64 t756)).setCell ⟨gb765, 8, none⟩ (.int .i64 t757)).setCell ⟨gb765, 9, none⟩ (.int .i64 t758)).setCell ⟨gb765, 10, none⟩ (.string t759)).setCell ⟨gb765, 11, none⟩ (.int .i64 t760)).setCell ⟨gb765, 12, none⟩ (.slice Ao48 t761.length co48)).heap[gb741]? = some (.cells #[.int .i64 a0_0, .int .i64 a0_1, .int .i64 a0_2, .int .i64 a0_3, .int .i64 a0_4, .int .i64 a0_5, .int .i64 a0_6, .int .i64 a0_7, .int .i64 a0_8, .int .i64 a0_9, .string a0_10, .int .i64 a0_11, .slice A0_12 l0_12.length c0_12] 32 (0, 0))) := ⟨by (with_reducible repeat (first | refine blk_drewN ?_ _ | refine blk_drew ?_ | refine blk_alloc ?_ _)); (iterate 13 (refine blk_far ?_ NB741_765.out _)); (with_reducible repeat (first | refine blk_drewN ?_ _ | refine blk_drew ?_ | refine blk_alloc ?_ _)); exact BK741.out⟩
              have n2_ : Aside0 ((((((((((((((w43.setCell ⟨gb765, 0, none⟩ (.int .i64 t749)).setCell ⟨gb765, 1, none⟩ (.int .i64 t750)).setCell ⟨gb765, 2, none⟩ (.int .i64 t751)).setCell ⟨gb765, 3, none⟩ (.int .i64 t752)).setCell ⟨gb765, 4, none⟩ (.int .i64 t753)).setCell ⟨gb765, 5, none⟩ (.int .i64 t754)).setCell ⟨gb765, 6, none⟩ (.int .i64 t755)).setCell ⟨gb765, 7, none⟩ (.int .i64 t756)).setCell ⟨gb765, 8, none⟩ (.int .i64 t757)).setCell ⟨gb765, 9, none⟩ (.int .i64 t758)).setCell ⟨gb765, 10, none⟩ (.string t759)).setCell ⟨gb765, 11, none⟩ (.int .i64 t760)).setCell ⟨gb765, 12, none⟩ (.slice Ao48 t761.length co48)).heap[gb742]? = some (.cells #[.int .i64 a1_0, .int .i64 a1_1, .int .i64 a1_2, .int .i64 a1_3, .int .i64 a1_4, .int .i64 a1_5, .int .i64 a1_6, .int .i64 a1_7, .string a1_8, .int .i64 a1_9, .slice A1_10 l1_10.length c1_10] 35 (0, 0))) := ⟨by (with_reducible repeat (first | refine blk_drewN ?_ _ | refine blk_drew ?_ | refine blk_alloc ?_ _)); (iterate 13 (refine blk_far ?_ NB742_765.out _)); (with_reducible repeat (first | refine blk_drewN ?_ _ | refine blk_drew ?_ | refine blk_alloc ?_ _)); exact BK742.out⟩
              have n3_ : Aside0 ((((((((((((((w43.setCell ⟨gb765, 0, none⟩ (.int .i64 t749)).setCell ⟨gb765, 1, none⟩ (.int .i64 t750)).setCell ⟨gb765, 2, none⟩ (.int .i64 t751)).setCell ⟨gb765, 3, none⟩ (.int .i64 t752)).setCell ⟨gb765, 4, none⟩ (.int .i64 t753)).setCell ⟨gb765, 5, none⟩ (.int .i64 t754)).setCell ⟨gb765, 6, none⟩ (.int .i64 t755)).setCell ⟨gb765, 7, none⟩ (.int .i64 t756)).setCell ⟨gb765, 8, none⟩ (.int .i64 t757)).setCell ⟨gb765, 9, none⟩ (.int .i64 t758)).setCell ⟨gb765, 10, none⟩ (.string t759)).setCell ⟨gb765, 11, none⟩ (.int .i64 t760)).setCell ⟨gb765, 12, none⟩ (.slice Ao48 t761.length co48)).heap[gb747]? = some (.cells #[.int .i64 2, .int .i64 0, .int .i64 1, .int .i64 0, .int .i64 1, .int .i64 a1_3, .int .i64 a1_4, .int .i64 a1_5, .int .i64 a1_6, .int .i64 a1_7, .string a1_8, .int .i64 a1_9, .slice A1_10 l1_10.length c1_10] 32 (0, 0))) := ⟨by (with_reducible repeat (first | refine blk_drewN ?_ _ | refine blk_drew ?_ | refine blk_alloc ?_ _)); (iterate 13 (refine blk_far ?_ NB747_765.out _)); (with_reducible repeat (first | refine blk_drewN ?_ _ | refine blk_drew ?_ | refine blk_alloc ?_ _)); exact BK747.out⟩
              have n4_ : Aside0 ((((((((((((((w43.setCell ⟨gb765, 0, none⟩ (.int .i64 t749)).setCell ⟨gb765, 1, none⟩ (.int .i64 t750)).setCell ⟨gb765, 2, none⟩ (.int .i64 t751)).setCell ⟨gb765, 3, none⟩ (.int .i64 t752)).setCell ⟨gb765, 4, none⟩ (.int .i64 t753)).setCell ⟨gb765, 5, none⟩ (.int .i64 t754)).setCell ⟨gb765, 6, none⟩ (.int .i64 t755)).setCell ⟨gb765, 7, none⟩ (.int .i64 t756)).setCell ⟨gb765, 8, none⟩ (.int .i64 t757)).setCell ⟨gb765, 9, none⟩ (.int .i64 t758)).setCell ⟨gb765, 10, none⟩ (.string t759)).setCell ⟨gb765, 11, none⟩ (.int .i64 t760)).setCell ⟨gb765, 12, none⟩ (.slice Ao48 t761.length co48)).heap[gb765]? = some (.cells #[.int .i64 t749, .int .i64 t750, .int .i64 t751, .int .i64 t752, .int .i64 t753, .int .i64 t754, .int .i64 t755, .int .i64 t756, .int .i64 t757, .int .i64 t758, .string t759, .int .i64 t760, .slice Ao48 t761.length co48] 32 (0, 0))) := ⟨by (with_reducible repeat (first | refine blk_drewN ?_ _ | refine blk_drew ?_ | refine blk_alloc ?_ _)); refine blk_put13 (cs := #[.int .i64 0, .int .i64 0, .int .i64 0, .int .i64 0, .int .i64 0, .int .i64 0, .int .i64 0, .int .i64 0, .int .i64 0, .int .i64 0, .string (⟨#[]⟩ : ByteArray), .int .i64 0, .slice none 0 0]) ?_ rfl; (with_reducible repeat (first | refine blk_drewN ?_ _ | refine blk_drew ?_ | refine blk_alloc ?_ _)); exact BK765.out⟩
              have n5_ : Aside0 (Below w.heap.size w (((((((((((((w43.setCell ⟨gb765, 0, none⟩ (.int .i64 t749)).setCell ⟨gb765, 1, none⟩ (.int .i64 t750)).setCell ⟨gb765, 2, none⟩ (.int .i64 t751)).setCell ⟨gb765, 3, none⟩ (.int .i64 t752)).setCell ⟨gb765, 4, none⟩ (.int .i64 t753)).setCell ⟨gb765, 5, none⟩ (.int .i64 t754)).setCell ⟨gb765, 6, none⟩ (.int .i64 t755)).setCell ⟨gb765, 7, none⟩ (.int .i64 t756)).setCell ⟨gb765, 8, none⟩ (.int .i64 t757)).setCell ⟨gb765, 9, none⟩ (.int .i64 t758)).setCell ⟨gb765, 10, none⟩ (.string t759)).setCell ⟨gb765, 11, none⟩ (.int .i64 t760)).setCell ⟨gb765, 12, none⟩ (.slice Ao48 t761.length co48))) := ⟨by repeat (first | (with_reducible first | exact HB.out | apply below_alloc | apply pw_below_drewN | apply below_drew1 | refine below_set ?_ GE741.out | refine below_set ?_ GE742.out | refine below_set ?_ GE747.out | refine below_set ?_ GE765.out) | exact HB.out)⟩
              (try clear HO763)
              (try clear BK741)
              (try clear BK742)
              (try clear BK747)
              (try clear BK765)
              (try clear HB)
              generalize (((((((((((((w43.setCell ⟨gb765, 0, none⟩ (.int .i64 t749)).setCell ⟨gb765, 1, none⟩ (.int .i64 t750)).setCell ⟨gb765, 2, none⟩ (.int .i64 t751)).setCell ⟨gb765, 3, none⟩ (.int .i64 t752)).setCell ⟨gb765, 4, none⟩ (.int .i64 t753)).setCell ⟨gb765, 5, none⟩ (.int .i64 t754)).setCell ⟨gb765, 6, none⟩ (.int .i64 t755)).setCell ⟨gb765, 7, none⟩ (.int .i64 t756)).setCell ⟨gb765, 8, none⟩ (.int .i64 t757)).setCell ⟨gb765, 9, none⟩ (.int .i64 t758)).setCell ⟨gb765, 10, none⟩ (.string t759)).setCell ⟨gb765, 11, none⟩ (.int .i64 t760)).setCell ⟨gb765, 12, none⟩ (.slice Ao48 t761.length co48)) = w49 at n0_ n1_ n2_ n3_ n4_ n5_ ⊢
              have HO763 := n0_
              have BK741 := n1_
              have BK742 := n2_
              have BK747 := n3_
              have BK765 := n4_
              have HB := n5_
              clear n0_ n1_ n2_ n3_ n4_ n5_
              have n0_ := Aside0.mk (Kd.R_drew HO763.out)
              have n1_ := Aside0.mk (blk_drew BK741.out)
              have n2_ := Aside0.mk (blk_drew BK742.out)
              have n3_ := Aside0.mk (blk_drew BK747.out)
              have n4_ := Aside0.mk (blk_drew BK765.out)
              have n5_ := Aside0.mk (below_drew1 HB.out)
              clear HO763
              clear BK741
              clear BK742
              clear BK747
              clear BK765
              clear HB
              have HO763 := n0_
              have BK741 := n1_
              have BK742 := n2_
              have BK747 := n3_
              have BK765 := n4_
              have HB := n5_
              clear n0_ n1_ n2_ n3_ n4_ n5_
              refine start_ (n := 18) (S := fun w' => w'.cell? ⟨gb765, 0, none⟩ = some (.int .i64 t749) ∧ w'.cell? ⟨gb765, 1, none⟩ = some (.int .i64 t750) ∧ w'.cell? ⟨gb765, 2, none⟩ = some (.int .i64 t751) ∧ w'.cell? ⟨gb765, 3, none⟩ = some (.int .i64 t752) ∧ w'.cell? ⟨gb765, 4, none⟩ = some (.int .i64 t753) ∧ w'.cell? ⟨gb765, 5, none⟩ = some (.int .i64 t754) ∧ w'.cell? ⟨gb765, 6, none⟩ = some (.int .i64 t755) ∧ w'.cell? ⟨gb765, 7, none⟩ = some (.int .i64 t756) ∧ w'.cell? ⟨gb765, 8, none⟩ = some (.int .i64 t757) ∧ w'.cell? ⟨gb765, 9, none⟩ = some (.int .i64 t758) ∧ w'.cell? ⟨gb765, 10, none⟩ = some (.string t759) ∧ w'.cell? ⟨gb765, 11, none⟩ = some (.int .i64 t760) ∧ w'.cell? ⟨gb765, 12, none⟩ = some (.slice Ao48 t761.length co48) ∧ w'.cell? ⟨gb741, 0, none⟩ = some (.int .i64 a0_0) ∧ w'.cell? ⟨gb741, 1, none⟩ = some (.int .i64 a0_1) ∧ w'.cell? ⟨gb741, 2, none⟩ = some (.int .i64 a0_2) ∧ w'.cell? ⟨gb741, 3, none⟩ = some (.int .i64 a0_3) ∧ w'.cell? ⟨gb741, 4, none⟩ = some (.int .i64 a0_4) ∧ w'.cell? ⟨gb741, 5, none⟩ = some (.int .i64 a0_5) ∧ w'.cell? ⟨gb741, 6, none⟩ = some (.int .i64 a0_6) ∧ w'.cell? ⟨gb741, 7, none⟩ = some (.int .i64 a0_7) ∧ w'.cell? ⟨gb741, 8, none⟩ = some (.int .i64 a0_8) ∧ w'.cell? ⟨gb741, 9, none⟩ = some (.int .i64 a0_9) ∧ w'.cell? ⟨gb741, 10, none⟩ = some (.string a0_10) ∧ w'.cell? ⟨gb741, 11, none⟩ = some (.int .i64 a0_11) ∧ w'.cell? ⟨gb741, 12, none⟩ = some (.slice A0_12 l0_12.length c0_12)) (ds := []) colloquylaw09_InstanceMay.m0 (by kernel_rfl) rfl rfl ⟨(blk_cell BK765.out 0).trans rfl, (blk_cell BK765.out 1).trans rfl, (blk_cell BK765.out 2).trans rfl, (blk_cell BK765.out 3).trans rfl, (blk_cell BK765.out 4).trans rfl, (blk_cell BK765.out 5).trans rfl, (blk_cell BK765.out 6).trans rfl, (blk_cell BK765.out 7).trans rfl, (blk_cell BK765.out 8).trans rfl, (blk_cell BK765.out 9).trans rfl, (blk_cell BK765.out 10).trans rfl, (blk_cell BK765.out 11).trans rfl, (blk_cell BK765.out 12).trans rfl, (blk_cell BK741.out 0).trans rfl, (blk_cell BK741.out 1).trans rfl, (blk_cell BK741.out 2).trans rfl, (blk_cell BK741.out 3).trans rfl, (blk_cell BK741.out 4).trans rfl, (blk_cell BK741.out 5).trans rfl, (blk_cell BK741.out 6).trans rfl, (blk_cell BK741.out 7).trans rfl, (blk_cell BK741.out 8).trans rfl, (blk_cell BK741.out 9).trans rfl, (blk_cell BK741.out 10).trans rfl, (blk_cell BK741.out 11).trans rfl, (blk_cell BK741.out 12).trans rfl⟩ (fun hHeld => ?_); refine with_tabW colloquylaw09_InstanceMay.tab10 colloquylaw09_InstanceMay.bits10 (fun HT_ HW_ => ?_)
              generalize w49.drew = w50 at HO763 BK741 BK742 BK747 BK765 HB hHeld ⊢
              refine pure_ (i := 1) (N := some 54) (v := ?_) (a' := ?_) colloquylaw09_InstanceMay.m1 rfl rfl (any_of HT_.out (by kernel_rfl)) (fun _ _ _ h => h) (Or.inl ⟨by rfl, ?_⟩) ?_ ?_
              rotate_left
              · intro w'
                go_simp
                with_reducible rfl
              rotate_left
              · simp only [Act.put, List.setIfInBounds_toArray, List.set_cons_zero, List.set_cons_succ, i64_w, i32_w]
                rfl
              refine take_ (i := 0) (N := some 53) (v := ?_) (a' := ?_) colloquylaw09_InstanceMay.m2 rfl rfl (take_ofW HT_.out HW_.out (by kernel_rfl)) (fun _ _ _ h => h) (Or.inl ⟨by rfl, ?_⟩) hHeld ?_ ?_
              rotate_left
              · rintro w' ⟨s0, s1, s2, s3, s4, s5, s6, s7, s8, s9, s10, s11, s12, s13, s14, s15, s16, s17, s18, s19, s20, s21, s22, s23, s24, s25⟩
                go_simp
                with_reducible rfl
              rotate_left
              · simp only [Act.put, List.setIfInBounds_toArray, List.set_cons_zero, List.set_cons_succ, i64_w, i32_w]
                rfl
              refine one_ (i := 2) (N := some 55) colloquylaw09_InstanceMay.m3 rfl rfl (one_of HT_.out (by kernel_rfl)) (by decide) (fun K hK => ?_)
              refine goes_ Try.func16 (by kernel_rfl) rfl #[.agg #[.int .i64 t749, .int .i64 t750, .int .i64 t751, .int .i64 t752, .int .i64 t753, .int .i64 t754, .int .i64 t755, .int .i64 t756, .int .i64 t757, .int .i64 t758, .string t759, .int .i64 t760, .slice Ao48 t761.length co48], .int .i64 a2] (by rfl) rfl rfl (by (try simp only [List.map_toArray, List.map_cons, List.map_nil]); first | done | rfl | (simp only [List.length_drop, List.length_take]; rfl)) ?_
              with_reducible refine (instance_May.calls kj6 t749 t750 t751 t752 t753 t754 t755 t756 t757 t758 t759 t760 _ _ t761 a2 true _ ?side1 ?side2 A27.out).mono ?_
              (case side1 => repeat (first | exact (Kd.R_reads' HO763.out).2.2 | (with_reducible refine Kd.C_alloc ?_ _) | (with_reducible refine Kd.C_drewN ?_ _) | (with_reducible refine Kd.C_drew ?_)))
              (case side2 => exact (Kd.R_reads' HO763.out).2.1)
              rintro e w51 ⟨rfl, hb⟩
              refine ⟨_, rfl, ?_⟩
              have n0_ := Aside0.mk (Kd.R_below (by (with_reducible repeat (first | apply Kd.R_alloc | apply Kd.R_drewN | apply Kd.R_drew)); exact HO763.out) hb)
              have n1_ := Aside0.mk (blk_below (g := gb741) (by (with_reducible repeat (first | refine blk_drewN ?_ _ | refine blk_drew ?_ | refine blk_alloc ?_ _)); exact BK741.out) hb)
              have n2_ := Aside0.mk (blk_below (g := gb742) (by (with_reducible repeat (first | refine blk_drewN ?_ _ | refine blk_drew ?_ | refine blk_alloc ?_ _)); exact BK742.out) hb)
              have n3_ := Aside0.mk (blk_below (g := gb747) (by (with_reducible repeat (first | refine blk_drewN ?_ _ | refine blk_drew ?_ | refine blk_alloc ?_ _)); exact BK747.out) hb)
              have n4_ := Aside0.mk (blk_below (g := gb765) (by (with_reducible repeat (first | refine blk_drewN ?_ _ | refine blk_drew ?_ | refine blk_alloc ?_ _)); exact BK765.out) hb)
              have n5_ := Aside0.mk (below_step (by repeat (first | (with_reducible first | exact HB.out | apply below_alloc | apply pw_below_drewN | apply below_drew1 | refine below_set ?_ GE741.out | refine below_set ?_ GE742.out | refine below_set ?_ GE747.out | refine below_set ?_ GE765.out) | exact HB.out)) hb)
              clear HO763
              clear BK741
              clear BK742
              clear BK747
              clear BK765
              clear HB
              have HO763 := n0_
              have BK741 := n1_
              have BK742 := n2_
              have BK747 := n3_
              have BK765 := n4_
              have HB := n5_
              clear n0_ n1_ n2_ n3_ n4_ n5_
              (try clear hb)
              (try clear hb2)
              (try clear hk)
              (try clear hi)
              refine hK.out _ _ ⟨(blk_cell BK765.out 0).trans rfl, (blk_cell BK765.out 1).trans rfl, (blk_cell BK765.out 2).trans rfl, (blk_cell BK765.out 3).trans rfl, (blk_cell BK765.out 4).trans rfl, (blk_cell BK765.out 5).trans rfl, (blk_cell BK765.out 6).trans rfl, (blk_cell BK765.out 7).trans rfl, (blk_cell BK765.out 8).trans rfl, (blk_cell BK765.out 9).trans rfl, (blk_cell BK765.out 10).trans rfl, (blk_cell BK765.out 11).trans rfl, (blk_cell BK765.out 12).trans rfl, (blk_cell BK741.out 0).trans rfl, (blk_cell BK741.out 1).trans rfl, (blk_cell BK741.out 2).trans rfl, (blk_cell BK741.out 3).trans rfl, (blk_cell BK741.out 4).trans rfl, (blk_cell BK741.out 5).trans rfl, (blk_cell BK741.out 6).trans rfl, (blk_cell BK741.out 7).trans rfl, (blk_cell BK741.out 8).trans rfl, (blk_cell BK741.out 9).trans rfl, (blk_cell BK741.out 10).trans rfl, (blk_cell BK741.out 11).trans rfl, (blk_cell BK741.out 12).trans rfl⟩ (fun hHeld => ?_)
              clear hK K
              refine norm_ (a' := ?_) ?_ ?_
              rotate_left
              · show Act.put _ (some 55) _ = _
                simp only [Act.put, List.setIfInBounds_toArray, List.set_cons_zero, List.set_cons_succ, i64_w, i32_w]
                rfl
              refine pure_ (i := 3) (N := some 56) (v := ?_) (a' := ?_) colloquylaw09_InstanceMay.m4 rfl rfl (any_of HT_.out (by kernel_rfl)) (fun _ _ _ h => h) (Or.inl ⟨by rfl, ?_⟩) ?_ ?_
              rotate_left
              · intro w'
                go_simp
                with_reducible rfl
              rotate_left
              · simp only [Act.put, List.setIfInBounds_toArray, List.set_cons_zero, List.set_cons_succ, i64_w, i32_w]
                rfl
              refine take_ (i := 4) (N := some 57) (v := ?_) (a' := ?_) colloquylaw09_InstanceMay.m5 rfl rfl (take_ofW HT_.out HW_.out (by kernel_rfl)) (fun _ _ _ h => h) (Or.inl ⟨by rfl, ?_⟩) hHeld ?_ ?_
              rotate_left
              · rintro w' ⟨s0, s1, s2, s3, s4, s5, s6, s7, s8, s9, s10, s11, s12, s13, s14, s15, s16, s17, s18, s19, s20, s21, s22, s23, s24, s25⟩
                go_simp
                with_reducible rfl
              rotate_left
              · simp only [Act.put, List.setIfInBounds_toArray, List.set_cons_zero, List.set_cons_succ, i64_w, i32_w]
                rfl
              refine take_ (i := 5) (N := some 58) (v := ?_) (a' := ?_) colloquylaw09_InstanceMay.m6 rfl rfl (take_ofW HT_.out HW_.out (by kernel_rfl)) (fun _ _ _ h => h) (Or.inl ⟨by rfl, ?_⟩) hHeld ?_ ?_
              rotate_left
              · rintro w' ⟨s0, s1, s2, s3, s4, s5, s6, s7, s8, s9, s10, s11, s12, s13, s14, s15, s16, s17, s18, s19, s20, s21, s22, s23, s24, s25⟩
                go_simp
                with_reducible rfl
              rotate_left
              · simp only [Act.put, List.setIfInBounds_toArray, List.set_cons_zero, List.set_cons_succ, i64_w, i32_w]
                rfl
              refine one_ (i := 6) (N := some 59) colloquylaw09_InstanceMay.m7 rfl rfl (one_of HT_.out (by kernel_rfl)) (by decide) (fun K hK => ?_)
              refine goes_ Try.func12 (by kernel_rfl) rfl #[.agg #[.int .i64 t749, .int .i64 t750, .int .i64 t751, .int .i64 t752, .int .i64 t753, .int .i64 t754, .int .i64 t755, .int .i64 t756, .int .i64 t757, .int .i64 t758, .string t759, .int .i64 t760, .slice Ao48 t761.length co48], .agg #[.int .i64 t749, .int .i64 t750, .int .i64 t751, .int .i64 t752, .int .i64 t753, .int .i64 t754, .int .i64 t755, .int .i64 t756, .int .i64 t757, .int .i64 t758, .string t759, .int .i64 t760, .slice Ao48 t761.length co48]] (by rfl) rfl rfl (by (try simp only [List.map_toArray, List.map_cons, List.map_nil]); first | done | rfl | (simp only [List.length_drop, List.length_take]; rfl)) ?_
              with_reducible refine (instance_Same.calls t749 t750 t751 t752 t753 t754 t755 t756 t757 t758 t759 t760 _ _ t761 t749 t750 t751 t752 t753 t754 t755 t756 t757 t758 t759 t760 _ _ t761 true _ ?side1 ?side2 ?side3 ?side4 A29.out).mono ?_
              (case side1 => repeat (first | exact (Kd.R_reads' HO763.out).2.2 | (with_reducible refine Kd.C_alloc ?_ _) | (with_reducible refine Kd.C_drewN ?_ _) | (with_reducible refine Kd.C_drew ?_)))
              (case side2 => exact (Kd.R_reads' HO763.out).2.1)
              (case side3 => repeat (first | exact (Kd.R_reads' HO763.out).2.2 | (with_reducible refine Kd.C_alloc ?_ _) | (with_reducible refine Kd.C_drewN ?_ _) | (with_reducible refine Kd.C_drew ?_)))
              (case side4 => exact (Kd.R_reads' HO763.out).2.1)
              rintro e w52 ⟨rfl, hb⟩
              refine ⟨_, rfl, ?_⟩
              have n0_ := Aside0.mk (Kd.R_below (by (with_reducible repeat (first | apply Kd.R_alloc | apply Kd.R_drewN | apply Kd.R_drew)); exact HO763.out) hb)
              have n1_ := Aside0.mk (blk_below (g := gb741) (by (with_reducible repeat (first | refine blk_drewN ?_ _ | refine blk_drew ?_ | refine blk_alloc ?_ _)); exact BK741.out) hb)
              have n2_ := Aside0.mk (blk_below (g := gb742) (by (with_reducible repeat (first | refine blk_drewN ?_ _ | refine blk_drew ?_ | refine blk_alloc ?_ _)); exact BK742.out) hb)
              have n3_ := Aside0.mk (blk_below (g := gb747) (by (with_reducible repeat (first | refine blk_drewN ?_ _ | refine blk_drew ?_ | refine blk_alloc ?_ _)); exact BK747.out) hb)
              have n4_ := Aside0.mk (blk_below (g := gb765) (by (with_reducible repeat (first | refine blk_drewN ?_ _ | refine blk_drew ?_ | refine blk_alloc ?_ _)); exact BK765.out) hb)
              have n5_ := Aside0.mk (below_step (by repeat (first | (with_reducible first | exact HB.out | apply below_alloc | apply pw_below_drewN | apply below_drew1 | refine below_set ?_ GE741.out | refine below_set ?_ GE742.out | refine below_set ?_ GE747.out | refine below_set ?_ GE765.out) | exact HB.out)) hb)
              clear HO763
              clear BK741
              clear BK742
              clear BK747
              clear BK765
              clear HB
              have HO763 := n0_
              have BK741 := n1_
              have BK742 := n2_
              have BK747 := n3_
              have BK765 := n4_
              have HB := n5_
              clear n0_ n1_ n2_ n3_ n4_ n5_
              (try clear hb)
              (try clear hb2)
              (try clear hk)
              (try clear hi)
              refine hK.out _ _ ⟨(blk_cell BK765.out 0).trans rfl, (blk_cell BK765.out 1).trans rfl, (blk_cell BK765.out 2).trans rfl, (blk_cell BK765.out 3).trans rfl, (blk_cell BK765.out 4).trans rfl, (blk_cell BK765.out 5).trans rfl, (blk_cell BK765.out 6).trans rfl, (blk_cell BK765.out 7).trans rfl, (blk_cell BK765.out 8).trans rfl, (blk_cell BK765.out 9).trans rfl, (blk_cell BK765.out 10).trans rfl, (blk_cell BK765.out 11).trans rfl, (blk_cell BK765.out 12).trans rfl, (blk_cell BK741.out 0).trans rfl, (blk_cell BK741.out 1).trans rfl, (blk_cell BK741.out 2).trans rfl, (blk_cell BK741.out 3).trans rfl, (blk_cell BK741.out 4).trans rfl, (blk_cell BK741.out 5).trans rfl, (blk_cell BK741.out 6).trans rfl, (blk_cell BK741.out 7).trans rfl, (blk_cell BK741.out 8).trans rfl, (blk_cell BK741.out 9).trans rfl, (blk_cell BK741.out 10).trans rfl, (blk_cell BK741.out 11).trans rfl, (blk_cell BK741.out 12).trans rfl⟩ (fun hHeld => ?_)
              clear hK K
              refine norm_ (a' := ?_) ?_ ?_
              rotate_left
              · show Act.put _ (some 59) _ = _
                simp only [Act.put, List.setIfInBounds_toArray, List.set_cons_zero, List.set_cons_succ, i64_w, i32_w]
                rfl
              refine pure_ (i := 7) (N := some 60) (v := ?_) (a' := ?_) colloquylaw09_InstanceMay.m8 rfl rfl (any_of HT_.out (by kernel_rfl)) (fun _ _ _ h => h) (Or.inl ⟨by rfl, ?_⟩) ?_ ?_
              rotate_left
              · intro w'
                go_simp
                with_reducible rfl
              rotate_left
              · simp only [Act.put, List.setIfInBounds_toArray, List.set_cons_zero, List.set_cons_succ, i64_w, i32_w]
                rfl
              refine pure_ (i := 8) (N := some 61) (v := ?_) (a' := ?_) colloquylaw09_InstanceMay.m9 rfl rfl (any_of HT_.out (by kernel_rfl)) (fun _ _ _ h => h) (Or.inl ⟨by rfl, ?_⟩) ?_ ?_
              rotate_left
              · intro w'
                go_simp
                with_reducible rfl
              rotate_left
              · simp only [Act.put, List.setIfInBounds_toArray, List.set_cons_zero, List.set_cons_succ, i64_w, i32_w]
                rfl
              refine take_ (i := 9) (N := some 62) (v := ?_) (a' := ?_) colloquylaw09_InstanceMay.m10 rfl rfl (take_ofW HT_.out HW_.out (by kernel_rfl)) (fun _ _ _ h => h) (Or.inl ⟨by rfl, ?_⟩) hHeld ?_ ?_
              rotate_left
              · rintro w' ⟨s0, s1, s2, s3, s4, s5, s6, s7, s8, s9, s10, s11, s12, s13, s14, s15, s16, s17, s18, s19, s20, s21, s22, s23, s24, s25⟩
                go_simp
                with_reducible rfl
              rotate_left
              · simp only [Act.put, List.setIfInBounds_toArray, List.set_cons_zero, List.set_cons_succ, i64_w, i32_w]
                rfl
              refine take_ (i := 10) (N := some 63) (v := ?_) (a' := ?_) colloquylaw09_InstanceMay.m11 rfl rfl (take_ofW HT_.out HW_.out (by kernel_rfl)) (fun _ _ _ h => h) (Or.inl ⟨by rfl, ?_⟩) hHeld ?_ ?_
              rotate_left
              · rintro w' ⟨s0, s1, s2, s3, s4, s5, s6, s7, s8, s9, s10, s11, s12, s13, s14, s15, s16, s17, s18, s19, s20, s21, s22, s23, s24, s25⟩
                go_simp
                with_reducible rfl
              rotate_left
              · simp only [Act.put, List.setIfInBounds_toArray, List.set_cons_zero, List.set_cons_succ, i64_w, i32_w]
                rfl
              refine take_ (i := 12) (N := some 65) (v := ?_) (a' := ?_) colloquylaw09_InstanceMay.m12 rfl rfl (take_ofW HT_.out HW_.out (by kernel_rfl)) (fun _ _ _ h => h) (Or.inl ⟨by rfl, ?_⟩) hHeld ?_ ?_
              rotate_left
              · rintro w' ⟨s0, s1, s2, s3, s4, s5, s6, s7, s8, s9, s10, s11, s12, s13, s14, s15, s16, s17, s18, s19, s20, s21, s22, s23, s24, s25⟩
                go_simp
                with_reducible rfl
              rotate_left
              · simp only [Act.put, List.setIfInBounds_toArray, List.set_cons_zero, List.set_cons_succ, i64_w, i32_w]
                rfl
              refine take_ (i := 13) (N := some 66) (v := ?_) (a' := ?_) colloquylaw09_InstanceMay.m13 rfl rfl (take_ofW HT_.out HW_.out (by kernel_rfl)) (fun _ _ _ h => h) (Or.inl ⟨by rfl, ?_⟩) hHeld ?_ ?_
              rotate_left
              · rintro w' ⟨s0, s1, s2, s3, s4, s5, s6, s7, s8, s9, s10, s11, s12, s13, s14, s15, s16, s17, s18, s19, s20, s21, s22, s23, s24, s25⟩
                go_simp
                with_reducible rfl
              rotate_left
              · simp only [Act.put, List.setIfInBounds_toArray, List.set_cons_zero, List.set_cons_succ, i64_w, i32_w]
                rfl
              refine one_ (i := 11) (N := some 64) colloquylaw09_InstanceMay.m14 rfl rfl (one_of HT_.out (by kernel_rfl)) (by decide) (fun K hK => ?_)
              refine goes_ Try.func12 (by kernel_rfl) rfl #[.agg #[.int .i64 t749, .int .i64 t750, .int .i64 t751, .int .i64 t752, .int .i64 t753, .int .i64 t754, .int .i64 t755, .int .i64 t756, .int .i64 t757, .int .i64 t758, .string t759, .int .i64 t760, .slice Ao48 t761.length co48], .agg #[.int .i64 a0_0, .int .i64 a0_1, .int .i64 a0_2, .int .i64 a0_3, .int .i64 a0_4, .int .i64 a0_5, .int .i64 a0_6, .int .i64 a0_7, .int .i64 a0_8, .int .i64 a0_9, .string a0_10, .int .i64 a0_11, .slice A0_12 l0_12.length c0_12]] (by rfl) rfl rfl (by (try simp only [List.map_toArray, List.map_cons, List.map_nil]); first | done | rfl | (simp only [List.length_drop, List.length_take]; rfl)) ?_
              with_reducible refine (instance_Same.calls t749 t750 t751 t752 t753 t754 t755 t756 t757 t758 t759 t760 _ _ t761 a0_0 a0_1 a0_2 a0_3 a0_4 a0_5 a0_6 a0_7 a0_8 a0_9 a0_10 a0_11 _ _ l0_12 t768 _ ?side1 ?side2 ?side3 ?side4 A31.out).mono ?_
              (case side1 => repeat (first | exact (Kd.R_reads' HO763.out).2.2 | (with_reducible refine Kd.C_alloc ?_ _) | (with_reducible refine Kd.C_drewN ?_ _) | (with_reducible refine Kd.C_drew ?_)))
              (case side2 => exact (Kd.R_reads' HO763.out).2.1)
              (case side3 => repeat (first | exact (Kd.C_below HR0_12.out HB.out) | (with_reducible refine Kd.C_alloc ?_ _) | (with_reducible refine Kd.C_drewN ?_ _) | (with_reducible refine Kd.C_drew ?_)))
              (case side4 => exact HC0_12.out)
              rintro e w53 ⟨rfl, hb⟩
              refine ⟨_, rfl, ?_⟩
              have n0_ := Aside0.mk (Kd.R_below (by (with_reducible repeat (first | apply Kd.R_alloc | apply Kd.R_drewN | apply Kd.R_drew)); exact HO763.out) hb)
              have n1_ := Aside0.mk (blk_below (g := gb741) (by (with_reducible repeat (first | refine blk_drewN ?_ _ | refine blk_drew ?_ | refine blk_alloc ?_ _)); exact BK741.out) hb)
              have n2_ := Aside0.mk (blk_below (g := gb742) (by (with_reducible repeat (first | refine blk_drewN ?_ _ | refine blk_drew ?_ | refine blk_alloc ?_ _)); exact BK742.out) hb)
              have n3_ := Aside0.mk (blk_below (g := gb747) (by (with_reducible repeat (first | refine blk_drewN ?_ _ | refine blk_drew ?_ | refine blk_alloc ?_ _)); exact BK747.out) hb)
              have n4_ := Aside0.mk (blk_below (g := gb765) (by (with_reducible repeat (first | refine blk_drewN ?_ _ | refine blk_drew ?_ | refine blk_alloc ?_ _)); exact BK765.out) hb)
              have n5_ := Aside0.mk (below_step (by repeat (first | (with_reducible first | exact HB.out | apply below_alloc | apply pw_below_drewN | apply below_drew1 | refine below_set ?_ GE741.out | refine below_set ?_ GE742.out | refine below_set ?_ GE747.out | refine below_set ?_ GE765.out) | exact HB.out)) hb)
              clear HO763
              clear BK741
              clear BK742
              clear BK747
              clear BK765
              clear HB
              have HO763 := n0_
              have BK741 := n1_
              have BK742 := n2_
              have BK747 := n3_
              have BK765 := n4_
              have HB := n5_
              clear n0_ n1_ n2_ n3_ n4_ n5_
              (try clear hb)
              (try clear hb2)
              (try clear hk)
              (try clear hi)
              refine hK.out _ _ ⟨(blk_cell BK765.out 0).trans rfl, (blk_cell BK765.out 1).trans rfl, (blk_cell BK765.out 2).trans rfl, (blk_cell BK765.out 3).trans rfl, (blk_cell BK765.out 4).trans rfl, (blk_cell BK765.out 5).trans rfl, (blk_cell BK765.out 6).trans rfl, (blk_cell BK765.out 7).trans rfl, (blk_cell BK765.out 8).trans rfl, (blk_cell BK765.out 9).trans rfl, (blk_cell BK765.out 10).trans rfl, (blk_cell BK765.out 11).trans rfl, (blk_cell BK765.out 12).trans rfl, (blk_cell BK741.out 0).trans rfl, (blk_cell BK741.out 1).trans rfl, (blk_cell BK741.out 2).trans rfl, (blk_cell BK741.out 3).trans rfl, (blk_cell BK741.out 4).trans rfl, (blk_cell BK741.out 5).trans rfl, (blk_cell BK741.out 6).trans rfl, (blk_cell BK741.out 7).trans rfl, (blk_cell BK741.out 8).trans rfl, (blk_cell BK741.out 9).trans rfl, (blk_cell BK741.out 10).trans rfl, (blk_cell BK741.out 11).trans rfl, (blk_cell BK741.out 12).trans rfl⟩ (fun hHeld => ?_)
              clear hK K
              refine norm_ (a' := ?_) ?_ ?_
              rotate_left
              · show Act.put _ (some 64) _ = _
                simp only [Act.put, List.setIfInBounds_toArray, List.set_cons_zero, List.set_cons_succ, i64_w, i32_w]
                rfl
              refine one_ (i := 14) (N := some 67) colloquylaw09_InstanceMay.m15 rfl rfl (one_of HT_.out (by kernel_rfl)) (by decide) (fun K hK => ?_)
              refine goes_ Try.func12 (by kernel_rfl) rfl #[.agg #[.int .i64 a0_0, .int .i64 a0_1, .int .i64 a0_2, .int .i64 a0_3, .int .i64 a0_4, .int .i64 a0_5, .int .i64 a0_6, .int .i64 a0_7, .int .i64 a0_8, .int .i64 a0_9, .string a0_10, .int .i64 a0_11, .slice A0_12 l0_12.length c0_12], .agg #[.int .i64 t749, .int .i64 t750, .int .i64 t751, .int .i64 t752, .int .i64 t753, .int .i64 t754, .int .i64 t755, .int .i64 t756, .int .i64 t757, .int .i64 t758, .string t759, .int .i64 t760, .slice Ao48 t761.length co48]] (by rfl) rfl rfl (by (try simp only [List.map_toArray, List.map_cons, List.map_nil]); first | done | rfl | (simp only [List.length_drop, List.length_take]; rfl)) ?_
              with_reducible refine (instance_Same.calls a0_0 a0_1 a0_2 a0_3 a0_4 a0_5 a0_6 a0_7 a0_8 a0_9 a0_10 a0_11 _ _ l0_12 t749 t750 t751 t752 t753 t754 t755 t756 t757 t758 t759 t760 _ _ t761 t769 _ ?side1 ?side2 ?side3 ?side4 A32.out).mono ?_
              (case side1 => repeat (first | exact (Kd.C_below HR0_12.out HB.out) | (with_reducible refine Kd.C_alloc ?_ _) | (with_reducible refine Kd.C_drewN ?_ _) | (with_reducible refine Kd.C_drew ?_)))
              (case side2 => exact HC0_12.out)
              (case side3 => repeat (first | exact (Kd.R_reads' HO763.out).2.2 | (with_reducible refine Kd.C_alloc ?_ _) | (with_reducible refine Kd.C_drewN ?_ _) | (with_reducible refine Kd.C_drew ?_)))
              (case side4 => exact (Kd.R_reads' HO763.out).2.1)
              rintro e w54 ⟨rfl, hb⟩
              refine ⟨_, rfl, ?_⟩
              have n0_ := Aside0.mk (Kd.R_below (by (with_reducible repeat (first | apply Kd.R_alloc | apply Kd.R_drewN | apply Kd.R_drew)); exact HO763.out) hb)
              have n1_ := Aside0.mk (blk_below (g := gb741) (by (with_reducible repeat (first | refine blk_drewN ?_ _ | refine blk_drew ?_ | refine blk_alloc ?_ _)); exact BK741.out) hb)
              have n2_ := Aside0.mk (blk_below (g := gb742) (by (with_reducible repeat (first | refine blk_drewN ?_ _ | refine blk_drew ?_ | refine blk_alloc ?_ _)); exact BK742.out) hb)
              have n3_ := Aside0.mk (blk_below (g := gb747) (by (with_reducible repeat (first | refine blk_drewN ?_ _ | refine blk_drew ?_ | refine blk_alloc ?_ _)); exact BK747.out) hb)
              have n4_ := Aside0.mk (blk_below (g := gb765) (by (with_reducible repeat (first | refine blk_drewN ?_ _ | refine blk_drew ?_ | refine blk_alloc ?_ _)); exact BK765.out) hb)
              have n5_ := Aside0.mk (below_step (by repeat (first | (with_reducible first | exact HB.out | apply below_alloc | apply pw_below_drewN | apply below_drew1 | refine below_set ?_ GE741.out | refine below_set ?_ GE742.out | refine below_set ?_ GE747.out | refine below_set ?_ GE765.out) | exact HB.out)) hb)
              clear HO763
              clear BK741
              clear BK742
              clear BK747
              clear BK765
              clear HB
              have HO763 := n0_
              have BK741 := n1_
              have BK742 := n2_
              have BK747 := n3_
              have BK765 := n4_
              have HB := n5_
              clear n0_ n1_ n2_ n3_ n4_ n5_
              (try clear hb)
              (try clear hb2)
              (try clear hk)
              (try clear hi)
              refine hK.out _ _ ⟨(blk_cell BK765.out 0).trans rfl, (blk_cell BK765.out 1).trans rfl, (blk_cell BK765.out 2).trans rfl, (blk_cell BK765.out 3).trans rfl, (blk_cell BK765.out 4).trans rfl, (blk_cell BK765.out 5).trans rfl, (blk_cell BK765.out 6).trans rfl, (blk_cell BK765.out 7).trans rfl, (blk_cell BK765.out 8).trans rfl, (blk_cell BK765.out 9).trans rfl, (blk_cell BK765.out 10).trans rfl, (blk_cell BK765.out 11).trans rfl, (blk_cell BK765.out 12).trans rfl, (blk_cell BK741.out 0).trans rfl, (blk_cell BK741.out 1).trans rfl, (blk_cell BK741.out 2).trans rfl, (blk_cell BK741.out 3).trans rfl, (blk_cell BK741.out 4).trans rfl, (blk_cell BK741.out 5).trans rfl, (blk_cell BK741.out 6).trans rfl, (blk_cell BK741.out 7).trans rfl, (blk_cell BK741.out 8).trans rfl, (blk_cell BK741.out 9).trans rfl, (blk_cell BK741.out 10).trans rfl, (blk_cell BK741.out 11).trans rfl, (blk_cell BK741.out 12).trans rfl⟩ (fun hHeld => ?_)
              clear hK K
              refine norm_ (a' := ?_) ?_ ?_
              rotate_left
              · show Act.put _ (some 67) _ = _
                simp only [Act.put, List.setIfInBounds_toArray, List.set_cons_zero, List.set_cons_succ, i64_w, i32_w]
                rfl
              refine pure_ (i := 15) (N := some 68) (v := ?_) (a' := ?_) colloquylaw09_InstanceMay.m16 rfl rfl (any_of HT_.out (by kernel_rfl)) (fun _ _ _ h => h) (Or.inl ⟨by rfl, ?_⟩) ?_ ?_
              rotate_left
              · intro w'
                go_simp
                with_reducible rfl
              rotate_left
              · simp only [Act.put, List.setIfInBounds_toArray, List.set_cons_zero, List.set_cons_succ, i64_w, i32_w]
                rfl
              refine pure_ (i := 16) (N := some 69) (v := ?_) (a' := ?_) colloquylaw09_InstanceMay.m17 rfl rfl (any_of HT_.out (by kernel_rfl)) (fun _ _ _ h => h) (Or.inl ⟨by rfl, ?_⟩) ?_ ?_
              rotate_left
              · intro w'
                go_simp
                with_reducible rfl
              rotate_left
              · simp only [Act.put, List.setIfInBounds_toArray, List.set_cons_zero, List.set_cons_succ, i64_w, i32_w]
                rfl
              refine pure_ (i := 17) (N := some 6) (v := ?_) (a' := ?_) colloquylaw09_InstanceMay.m18 rfl rfl (any_of HT_.out (by kernel_rfl)) (fun _ _ _ h => h) (Or.inl ⟨by rfl, ?_⟩) ?_ ?_
              rotate_left
              · intro w'
                go_simp
                with_reducible rfl
              rotate_left
              · simp only [Act.put, List.setIfInBounds_toArray, List.set_cons_zero, List.set_cons_succ, i64_w, i32_w]
                rfl
              refine done_ (done_of HT_.out (by kernel_rfl)) ?_
              try go_wp2
              go_ret
              exact ⟨by first | rfl | (simp [errW_none, errW_some] <;> rfl) | (simp [*, errW_none, errW_some] <;> rfl), by repeat (first | (with_reducible first | exact HB.out | apply below_alloc | apply pw_below_drewN | apply below_drew1 | refine below_set ?_ GE741.out | refine below_set ?_ GE742.out | refine below_set ?_ GE747.out | refine below_set ?_ GE765.out) | exact HB.out)⟩
            · replace c30 := Bool.eq_false_iff.mpr c30
              subst c30
              have H1 : (some false) = some r := by rw [if_neg (show ¬ (false = true) by decide)] at H; exact H
              clear H
              have H := H1
              clear H1
              exact absurd (Option.some.inj H) (by rw [HRT.out]; decide)
          · replace c28 := Bool.eq_false_iff.mpr c28
            subst c28
            have H1 : (some false) = some r := by rw [if_neg (show ¬ (false = true) by decide)] at H; exact H
            clear H
            have H := H1
            clear H1
            exact absurd (Option.some.inj H) (by rw [HRT.out]; decide)
        · replace c25 := Bool.eq_false_iff.mpr c25
          subst c25
          have H1 : (some true) = some r := by rw [if_neg (show ¬ (false = true) by decide)] at H; exact H
          clear H
          have H := H1
          clear H1
          obtain rfl := Option.some.inj H
          have hnb55 := NB742_741.out
          have hnc55 := NB741_742.out
          have hcz56_0 : wc.cell? ⟨gb742, 0, none⟩ = some (.int .i64 a1_0) := (blk_cell BK742.out 0).trans rfl
          have hcz56_1 : wc.cell? ⟨gb742, 1, none⟩ = some (.int .i64 a1_1) := (blk_cell BK742.out 1).trans rfl
          have hcz56_2 : wc.cell? ⟨gb742, 2, none⟩ = some (.int .i64 a1_2) := (blk_cell BK742.out 2).trans rfl
          have hcz56_3 : wc.cell? ⟨gb742, 3, none⟩ = some (.int .i64 a1_3) := (blk_cell BK742.out 3).trans rfl
          have hcz56_4 : wc.cell? ⟨gb742, 4, none⟩ = some (.int .i64 a1_4) := (blk_cell BK742.out 4).trans rfl
          have hcz56_5 : wc.cell? ⟨gb742, 5, none⟩ = some (.int .i64 a1_5) := (blk_cell BK742.out 5).trans rfl
          have hcz56_6 : wc.cell? ⟨gb742, 6, none⟩ = some (.int .i64 a1_6) := (blk_cell BK742.out 6).trans rfl
          have hcz56_7 : wc.cell? ⟨gb742, 7, none⟩ = some (.int .i64 a1_7) := (blk_cell BK742.out 7).trans rfl
          have hcz56_8 : wc.cell? ⟨gb742, 8, none⟩ = some (.string a1_8) := (blk_cell BK742.out 8).trans rfl
          have hcz56_9 : wc.cell? ⟨gb742, 9, none⟩ = some (.int .i64 a1_9) := (blk_cell BK742.out 9).trans rfl
          have hcz56_10 : wc.cell? ⟨gb742, 10, none⟩ = some (.slice A1_10 l1_10.length c1_10) := (blk_cell BK742.out 10).trans rfl
          have hfz56_0 := blk_frozen BK742.out 0
          have hfz56_1 := blk_frozen BK742.out 1
          have hfz56_2 := blk_frozen BK742.out 2
          have hfz56_3 := blk_frozen BK742.out 3
          have hfz56_4 := blk_frozen BK742.out 4
          have hfz56_5 := blk_frozen BK742.out 5
          have hfz56_6 := blk_frozen BK742.out 6
          have hfz56_7 := blk_frozen BK742.out 7
          have hfz56_8 := blk_frozen BK742.out 8
          have hfz56_9 := blk_frozen BK742.out 9
          have hfz56_10 := blk_frozen BK742.out 10
          go_wp2_with (first | ((with_reducible refine gate_dst (N := 10) rfl ?_); refine box_event ?hg (N := 10) ?hd (cs := #[.int .i64 0, .int .i64 0, .int .i64 0, .int .i64 0, .int .i64 0, .int .i64 0, .int .i64 0, .int .i64 0, .int .i64 0, .int .i64 0, .string (⟨#[]⟩ : ByteArray), .int .i64 0, .slice none 0 0]) (t := 32) ?hr ?_; (case hd => rfl); (case hg => rfl); (case hr => first | (go_simp; done) | (go_simp; rfl)); intro gb747 hg w57 hbox hb; have n0_ := Aside0.mk (blk_below (g := gb741) (by (with_reducible repeat (first | refine blk_drewN ?_ _ | refine blk_drew ?_ | refine blk_alloc ?_ _)); exact BK741.out) hb); have n1_ := Aside0.mk (blk_below (g := gb742) (by (with_reducible repeat (first | refine blk_drewN ?_ _ | refine blk_drew ?_ | refine blk_alloc ?_ _)); exact BK742.out) hb); have n2_ := Aside0.mk (below_step (by repeat (first | (with_reducible first | exact HB.out | apply below_alloc | apply pw_below_drewN | apply below_drew1 | refine below_set ?_ GE741.out | refine below_set ?_ GE742.out) | exact HB.out)) hb); have n3_ := Aside0.mk (hbox); have n4_ := Aside0.mk ((by rw [hg]; exact (below_size (by repeat (first | (with_reducible first | exact HB.out | apply below_alloc | apply pw_below_drewN | apply below_drew1 | refine below_set ?_ GE741.out | refine below_set ?_ GE742.out) | exact HB.out))) : w.heap.size ≤ gb747)); have n5_ := Aside0.mk ((by rw [hg]; exact (below_size (by repeat (first | (with_reducible first | exact HB.out | apply below_alloc | apply pw_below_drewN | apply below_drew1 | refine below_set ?_ GE741.out | refine below_set ?_ GE742.out) | exact HB.out))) : w.heap.size ≤ gb747)); have n6_ := Aside0.mk ((by rw [hg]; exact Nat.ne_of_lt (blk_lt (g := gb741) (by (with_reducible repeat (first | refine blk_drewN ?_ _ | refine blk_drew ?_ | refine blk_alloc ?_ _)); exact BK741.out)) : gb741 ≠ gb747)); have n7_ := Aside0.mk ((by rw [hg]; exact Nat.ne_of_gt (blk_lt (g := gb741) (by (with_reducible repeat (first | refine blk_drewN ?_ _ | refine blk_drew ?_ | refine blk_alloc ?_ _)); exact BK741.out)) : gb747 ≠ gb741)); have n8_ := Aside0.mk ((by rw [hg]; exact Nat.ne_of_lt (blk_lt (g := gb742) (by (with_reducible repeat (first | refine blk_drewN ?_ _ | refine blk_drew ?_ | refine blk_alloc ?_ _)); exact BK742.out)) : gb742 ≠ gb747)); have n9_ := Aside0.mk ((by rw [hg]; exact Nat.ne_of_gt (blk_lt (g := gb742) (by (with_reducible repeat (first | refine blk_drewN ?_ _ | refine blk_drew ?_ | refine blk_alloc ?_ _)); exact BK742.out)) : gb747 ≠ gb742)); clear BK741; clear BK742; clear HB; have BK741 := n0_; have BK742 := n1_; have HB := n2_; have BK747 := n3_; have GW747 := n4_; have GE747 := n5_; have NB741_747 := n6_; have NB747_741 := n7_; have NB742_747 := n8_; have NB747_742 := n9_; clear n0_ n1_ n2_ n3_ n4_ n5_ n6_ n7_ n8_ n9_; clear hb hbox hg; have hnb58 := NB747_741.out; have hnc58 := NB741_747.out; have hnb59 := NB747_742.out; have hnc59 := NB742_747.out; have hcz60_0 : w57.cell? ⟨gb747, 0, none⟩ = some (.int .i64 0) := (blk_cell BK747.out 0).trans rfl; have hcz60_1 : w57.cell? ⟨gb747, 1, none⟩ = some (.int .i64 0) := (blk_cell BK747.out 1).trans rfl; have hcz60_2 : w57.cell? ⟨gb747, 2, none⟩ = some (.int .i64 0) := (blk_cell BK747.out 2).trans rfl; have hcz60_3 : w57.cell? ⟨gb747, 3, none⟩ = some (.int .i64 0) := (blk_cell BK747.out 3).trans rfl; have hcz60_4 : w57.cell? ⟨gb747, 4, none⟩ = some (.int .i64 0) := (blk_cell BK747.out 4).trans rfl; have hcz60_5 : w57.cell? ⟨gb747, 5, none⟩ = some (.int .i64 0) := (blk_cell BK747.out 5).trans rfl; have hcz60_6 : w57.cell? ⟨gb747, 6, none⟩ = some (.int .i64 0) := (blk_cell BK747.out 6).trans rfl; have hcz60_7 : w57.cell? ⟨gb747, 7, none⟩ = some (.int .i64 0) := (blk_cell BK747.out 7).trans rfl; have hcz60_8 : w57.cell? ⟨gb747, 8, none⟩ = some (.int .i64 0) := (blk_cell BK747.out 8).trans rfl; have hcz60_9 : w57.cell? ⟨gb747, 9, none⟩ = some (.int .i64 0) := (blk_cell BK747.out 9).trans rfl; have hcz60_10 : w57.cell? ⟨gb747, 10, none⟩ = some (.string (⟨#[]⟩ : ByteArray)) := (blk_cell BK747.out 10).trans rfl; have hcz60_11 : w57.cell? ⟨gb747, 11, none⟩ = some (.int .i64 0) := (blk_cell BK747.out 11).trans rfl; have hcz60_12 : w57.cell? ⟨gb747, 12, none⟩ = some (.slice none 0 0) := (blk_cell BK747.out 12).trans rfl; have hfz60_0 := blk_frozen BK747.out 0; have hfz60_1 := blk_frozen BK747.out 1; have hfz60_2 := blk_frozen BK747.out 2; have hfz60_3 := blk_frozen BK747.out 3; have hfz60_4 := blk_frozen BK747.out 4; have hfz60_5 := blk_frozen BK747.out 5; have hfz60_6 := blk_frozen BK747.out 6; have hfz60_7 := blk_frozen BK747.out 7; have hfz60_8 := blk_frozen BK747.out 8; have hfz60_9 := blk_frozen BK747.out 9; have hfz60_10 := blk_frozen BK747.out 10; have hfz60_11 := blk_frozen BK747.out 11; have hfz60_12 := blk_frozen BK747.out 12) | ((with_reducible refine gate_callee (f := 16) rfl ?_); refine goesL_ (some 45) rfl rfl Try.func16 (by kernel_rfl) rfl #[.agg #[.int .i64 2, .int .i64 0, .int .i64 1, .int .i64 0, .int .i64 1, .int .i64 a1_3, .int .i64 a1_4, .int .i64 a1_5, .int .i64 a1_6, .int .i64 a1_7, .string a1_8, .int .i64 a1_9, .slice A1_10 l1_10.length c1_10], .int .i64 a2] rfl (by (try simp only [List.map_toArray, List.map_cons, List.map_nil]); first | done | rfl | (simp only [List.length_drop, List.length_take]; rfl)) ?_; (with_reducible refine (instance_May.calls kj6 2 0 1 0 1 a1_3 a1_4 a1_5 a1_6 a1_7 a1_8 a1_9 _ _ l1_10 a2 false _ ?side1 ?side2 A24.out).mono ?_); (case side1 => exact Kd.C_below HR1_10.out (by repeat (first | (with_reducible first | exact HB.out | apply below_alloc | apply pw_below_drewN | apply below_drew1 | refine below_set ?_ GE741.out | refine below_set ?_ GE742.out | refine below_set ?_ GE747.out) | exact HB.out))); (case side2 => exact HC1_10.out); rintro e w61 ⟨rfl, hb⟩; refine ⟨_, rfl, ?_⟩; have n0_ := Aside0.mk (blk_below (g := gb741) (o := .cells #[.int .i64 a0_0, .int .i64 a0_1, .int .i64 a0_2, .int .i64 a0_3, .int .i64 a0_4, .int .i64 a0_5, .int .i64 a0_6, .int .i64 a0_7, .int .i64 a0_8, .int .i64 a0_9, .string a0_10, .int .i64 a0_11, .slice A0_12 l0_12.length c0_12] 32 (0, 0)) (by (with_reducible repeat (first | refine blk_drewN ?_ _ | refine blk_drew ?_ | refine blk_alloc ?_ _)); (iterate 13 (refine blk_far ?_ NB741_747.out _)); (with_reducible repeat (first | refine blk_drewN ?_ _ | refine blk_drew ?_ | refine blk_alloc ?_ _)); exact BK741.out) hb); have n1_ := Aside0.mk (blk_below (g := gb742) (o := .cells #[.int .i64 a1_0, .int .i64 a1_1, .int .i64 a1_2, .int .i64 a1_3, .int .i64 a1_4, .int .i64 a1_5, .int .i64 a1_6, .int .i64 a1_7, .string a1_8, .int .i64 a1_9, .slice A1_10 l1_10.length c1_10] 35 (0, 0)) (by (with_reducible repeat (first | refine blk_drewN ?_ _ | refine blk_drew ?_ | refine blk_alloc ?_ _)); (iterate 13 (refine blk_far ?_ NB742_747.out _)); (with_reducible repeat (first | refine blk_drewN ?_ _ | refine blk_drew ?_ | refine blk_alloc ?_ _)); exact BK742.out) hb); have n2_ := Aside0.mk (blk_below (g := gb747) (o := .cells #[.int .i64 2, .int .i64 0, .int .i64 1, .int .i64 0, .int .i64 1, .int .i64 a1_3, .int .i64 a1_4, .int .i64 a1_5, .int .i64 a1_6, .int .i64 a1_7, .string a1_8, .int .i64 a1_9, .slice A1_10 l1_10.length c1_10] 32 (0, 0)) (by (with_reducible repeat (first | refine blk_drewN ?_ _ | refine blk_drew ?_ | refine blk_alloc ?_ _)); refine blk_put13 (cs := #[.int .i64 0, .int .i64 0, .int .i64 0, .int .i64 0, .int .i64 0, .int .i64 0, .int .i64 0, .int .i64 0, .int .i64 0, .int .i64 0, .string (⟨#[]⟩ : ByteArray), .int .i64 0, .slice none 0 0]) ?_ rfl; (with_reducible repeat (first | refine blk_drewN ?_ _ | refine blk_drew ?_ | refine blk_alloc ?_ _)); exact BK747.out) hb); have n3_ := Aside0.mk (below_step (by repeat (first | (with_reducible first | exact HB.out | apply below_alloc | apply pw_below_drewN | apply below_drew1 | refine below_set ?_ GE741.out | refine below_set ?_ GE742.out | refine below_set ?_ GE747.out) | exact HB.out)) hb); clear BK741; clear BK742; clear BK747; clear HB; have BK741 := n0_; have BK742 := n1_; have BK747 := n2_; have HB := n3_; clear n0_ n1_ n2_ n3_; (try clear hb); (try clear hb2); (try clear hk); (try clear hi)))
          go_ret
          exact ⟨by first | rfl | (simp [errW_none, errW_some] <;> rfl) | (simp [*, errW_none, errW_some] <;> rfl), by repeat (first | (with_reducible first | exact HB.out | apply below_alloc | apply pw_below_drewN | apply below_drew1 | refine below_set ?_ GE741.out | refine below_set ?_ GE742.out | refine below_set ?_ GE747.out) | exact HB.out)⟩

end Go.Proofs.Ytkijkdifmoifaaa.P
