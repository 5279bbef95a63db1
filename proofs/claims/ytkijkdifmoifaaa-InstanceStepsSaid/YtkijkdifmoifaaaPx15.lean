/- Plain Lean functions and their contracts over the translation, written by a program of this session (myprint.py, over the kit's print); no condition but each contract's own. -/
import Derived.Test.YtkijkdifmoifaaaPx0
import Derived.Test.YtkijkdifmoifaaaPx5
import Derived.Test.YtkijkdifmoifaaaPx6
import Derived.Test.YtkijkdifmoifaaaPx10
import Derived.Test.YtkijkdifmoifaaaPx11
import Derived.Test.YtkijkdifmoifaaaPx12
import Derived.Test.YtkijkdifmoifaaaPx14
namespace Go.Proofs.Ytkijkdifmoifaaa.P
open Go.RowKit Go.Proofs.YtkijkdifmoifaaaW.PrintWords Go.Proofs.YtkijkdifmoifaaaW.PrintLast Go.Proofs.YtkijkdifmoifaaaW.PrintMore
attribute [local go_sem] max2_int min2_int max_two min_two max_three min_three max_four min_four   -- for this text's walks alone
set_option linter.unusedVariables false
set_option linter.unusedSimpArgs false

abbrev q6_0 : Array Bool := #[false, false, false, false, false, false, false, false, false, false, false, false, false, false, false, false, false, false, false, false, false, false, false, false, false]
abbrev q6_1 : Array Bool := #[true, false, false, false, false, false, false, false, false, false, false, false, false, false, false, false, false, false, false, false, false, false, false, false, false]
abbrev q6_2 : Array Bool := #[true, true, false, false, false, false, false, false, false, false, false, false, false, false, false, false, false, false, false, false, false, false, false, false, false]
abbrev q6_3 : Array Bool := #[true, true, true, false, false, false, false, false, false, false, false, false, false, false, false, false, false, false, false, false, false, false, false, false, false]
abbrev q6_4 : Array Bool := #[true, true, true, true, false, false, false, false, false, false, false, false, false, false, false, false, false, false, false, false, false, false, false, false, false]
abbrev q6_5 : Array Bool := #[true, true, true, true, true, false, false, false, false, false, false, false, false, false, false, false, false, false, false, false, false, false, false, false, false]
abbrev q6_6 : Array Bool := #[true, true, true, true, true, true, false, false, false, false, false, false, false, false, false, false, false, false, false, false, false, false, false, false, false]
abbrev q6_7 : Array Bool := #[true, true, true, true, true, true, true, false, false, false, false, false, false, false, false, false, false, false, false, false, false, false, false, false, false]
abbrev q6_8 : Array Bool := #[true, true, true, true, true, true, true, false, true, false, false, false, false, false, false, false, false, false, false, false, false, false, false, false, false]
abbrev q6_9 : Array Bool := #[true, true, true, true, true, true, true, false, true, false, false, true, false, false, false, false, false, false, false, false, false, false, false, false, false]
abbrev q6_10 : Array Bool := #[true, true, true, true, true, true, true, true, true, false, false, true, false, false, false, false, false, false, false, false, false, false, false, false, false]
abbrev q6_11 : Array Bool := #[true, true, true, true, true, true, true, true, true, false, true, true, false, false, false, false, false, false, false, false, false, false, false, false, false]
abbrev q6_12 : Array Bool := #[true, true, true, true, true, true, true, true, true, true, true, true, false, false, false, false, false, false, false, false, false, false, false, false, false]
abbrev q6_13 : Array Bool := #[true, true, true, true, true, true, true, true, true, true, true, true, true, false, false, false, false, false, false, false, false, false, false, false, false]
abbrev q6_14 : Array Bool := #[true, true, true, true, true, true, true, true, true, true, true, true, true, true, false, false, false, false, false, false, false, false, false, false, false]
abbrev q6_15 : Array Bool := #[true, true, true, true, true, true, true, true, true, true, true, true, true, true, true, false, false, false, false, false, false, false, false, false, false]
abbrev q6_16 : Array Bool := #[true, true, true, true, true, true, true, true, true, true, true, true, true, true, true, true, false, false, false, false, false, false, false, false, false]
abbrev q6_17 : Array Bool := #[true, true, true, true, true, true, true, true, true, true, true, true, true, true, true, true, true, false, false, false, false, false, false, false, false]
abbrev q6_18 : Array Bool := #[true, true, true, true, true, true, true, true, true, true, true, true, true, true, true, true, true, true, false, false, false, false, false, false, false]
abbrev q6_19 : Array Bool := #[true, true, true, true, true, true, true, true, true, true, true, true, true, true, true, true, true, true, false, true, false, false, false, false, false]
abbrev q6_20 : Array Bool := #[true, true, true, true, true, true, true, true, true, true, true, true, true, true, true, true, true, true, false, true, true, false, false, false, false]
abbrev q6_21 : Array Bool := #[true, true, true, true, true, true, true, true, true, true, true, true, true, true, true, true, true, true, true, true, true, false, false, false, false]
abbrev q6_22 : Array Bool := #[true, true, true, true, true, true, true, true, true, true, true, true, true, true, true, true, true, true, true, true, true, true, false, false, false]
abbrev q6_23 : Array Bool := #[true, true, true, true, true, true, true, true, true, true, true, true, true, true, true, true, true, true, true, true, true, true, true, false, false]
abbrev q6_24 : Array Bool := #[true, true, true, true, true, true, true, true, true, true, true, true, true, true, true, true, true, true, true, true, true, true, true, true, false]
abbrev q6_25 : Array Bool := #[true, true, true, true, true, true, true, true, true, true, true, true, true, true, true, true, true, true, true, true, true, true, true, true, true]
def colloquylaw09_InstanceSteps.j0 : Nat → Int → Bool → Bool → Int → Int → Int → Int → Int → Int → Int → Int → Int → Int → ByteArray → Int → List Int → Int → Int → Int → Int → Int → Int → Int → Int → ByteArray → Int → List Int → Int → Int → Int → Int → Int → Int → Int → Int → Int → Int → ByteArray → Int → List Int → Option (Bool)
 | 0, _, _, _, _, _, _, _, _, _, _, _, _, _, _, _, _, _, _, _, _, _, _, _, _, _, _, _, _, _, _, _, _, _, _, _, _, _, _, _, _ => none
 | k + 1, x3, x9, x39, x718000, x718001, x718002, x718003, x718004, x718005, x718006, x718007, x718008, x718009, x718010, x718011, x718012, x719000, x719001, x719002, x719003, x719004, x719005, x719006, x719007, x719008, x719009, x719010, x720000, x720001, x720002, x720003, x720004, x720005, x720006, x720007, x720008, x720009, x720010, x720011, x720012 => if x39 = true then (some x9) else ((colloquylaw09_does.f k x718000 x718001 x718002 x718003 x718004 x718005 x718006 x718007 x718008 x718009 x718010 x718011 x718012 x719000 x719001 x719002 x719003 x719004 x719005 x719006 x719007 x719008 x719009 x719010).bind fun bt724 => ((colloquylaw09_did.f k x718000 x718001 x718002 x718003 x718004 x718005 x718006 x718007 x718008 x718009 x718010 x718011 x718012 x719000 x719001 x719002 x719003 x719004 x719005 x719006 x719007 x719008 x719009 x719010).bind fun bt741 => ((colloquyref09_Same.f k bt724.1 bt724.2.1 bt724.2.2.1 bt724.2.2.2.1 bt724.2.2.2.2.1 bt724.2.2.2.2.2.1 bt724.2.2.2.2.2.2.1 bt724.2.2.2.2.2.2.2.1 bt724.2.2.2.2.2.2.2.2.1 bt724.2.2.2.2.2.2.2.2.2.1 bt724.2.2.2.2.2.2.2.2.2.2.1 bt724.2.2.2.2.2.2.2.2.2.2.2.1 bt724.2.2.2.2.2.2.2.2.2.2.2.2.1 bt741.1 bt741.2.1 bt741.2.2.1 bt741.2.2.2.1 bt741.2.2.2.2.1 bt741.2.2.2.2.2.1 bt741.2.2.2.2.2.2.1 bt741.2.2.2.2.2.2.2.1 bt741.2.2.2.2.2.2.2.2.1 bt741.2.2.2.2.2.2.2.2.2.1 bt741.2.2.2.2.2.2.2.2.2.2.1 bt741.2.2.2.2.2.2.2.2.2.2.2.1 bt741.2.2.2.2.2.2.2.2.2.2.2.2.1).bind fun t758 => (if t758 = true then (if (bt724.2.2.2.2.2.2.2.2.2.2.2.2.2 == bt741.2.2.2.2.2.2.2.2.2.2.2.2.2) = true then ((instance_May.f k x718000 x718001 x718002 x718003 x718004 x718005 x718006 x718007 x718008 x718009 x718010 x718011 x718012 x3).bind fun t759 => ((colloquyref09_May.f k x718000 x718001 x718002 x718003 x718004 x718005 x718006 x718007 x718008 x718009 x718010 x718011 x718012 x3).bind fun t760 => (if (t759 == t760) = true then ((instance_Same.f x718000 x718001 x718002 x718003 x718004 x718005 x718006 x718007 x718008 x718009 x718010 x718011 x718012 x720000 x720001 x720002 x720003 x720004 x720005 x720006 x720007 x720008 x720009 x720010 x720011 x720012).bind fun t761 => ((colloquyref09_Same.f k x718000 x718001 x718002 x718003 x718004 x718005 x718006 x718007 x718008 x718009 x718010 x718011 x718012 x720000 x720001 x720002 x720003 x720004 x720005 x720006 x720007 x720008 x720009 x720010 x720011 x720012).bind fun t762 => (some (t761 == t762)))) else (some false)))) else (some false)) else (some false)))))
def colloquylaw09_InstanceSteps.f (k : Nat) (a0_0 : Int) (a0_1 : Int) (a0_2 : Int) (a0_3 : Int) (a0_4 : Int) (a0_5 : Int) (a0_6 : Int) (a0_7 : Int) (a0_8 : Int) (a0_9 : Int) (a0_10 : ByteArray) (a0_11 : Int) (l0_12 : List Int) (a1_0 : Int) (a1_1 : Int) (a1_2 : Int) (a1_3 : Int) (a1_4 : Int) (a1_5 : Int) (a1_6 : Int) (a1_7 : Int) (a1_8 : ByteArray) (a1_9 : Int) (l1_10 : List Int) (a2_0 : Int) (a2_1 : Int) (a2_2 : Int) (a2_3 : Int) (a2_4 : Int) (a2_5 : Int) (a2_6 : Int) (a2_7 : Int) (a2_8 : Int) (a2_9 : Int) (a2_10 : ByteArray) (a2_11 : Int) (l2_12 : List Int) (a3 : Int) : Option (Bool) := (colloquylaw09_awake.f).bind fun t720 => ((colloquylaw09_Few.f a0_0 a0_1 a0_2 a0_3 a0_4 a0_5 a0_6 a0_7 a0_8 a0_9 a0_10 a0_11 l0_12).bind fun t721 => ((colloquylaw09_Few.f a2_0 a2_1 a2_2 a2_3 a2_4 a2_5 a2_6 a2_7 a2_8 a2_9 a2_10 a2_11 l2_12).bind fun t722 => ((colloquylaw06_Few.f a1_9 l1_10).bind fun t723 => (if t720 = true then (if t721 = true then (if t722 = true then (colloquylaw09_InstanceSteps.j0 k a3 t720 (!t723) a0_0 a0_1 a0_2 a0_3 a0_4 a0_5 a0_6 a0_7 a0_8 a0_9 a0_10 a0_11 l0_12 a1_0 a1_1 a1_2 a1_3 a1_4 a1_5 a1_6 a1_7 a1_8 a1_9 l1_10 a2_0 a2_1 a2_2 a2_3 a2_4 a2_5 a2_6 a2_7 a2_8 a2_9 a2_10 a2_11 l2_12) else (colloquylaw09_InstanceSteps.j0 k a3 t720 true a0_0 a0_1 a0_2 a0_3 a0_4 a0_5 a0_6 a0_7 a0_8 a0_9 a0_10 a0_11 l0_12 a1_0 a1_1 a1_2 a1_3 a1_4 a1_5 a1_6 a1_7 a1_8 a1_9 l1_10 a2_0 a2_1 a2_2 a2_3 a2_4 a2_5 a2_6 a2_7 a2_8 a2_9 a2_10 a2_11 l2_12)) else (colloquylaw09_InstanceSteps.j0 k a3 t720 true a0_0 a0_1 a0_2 a0_3 a0_4 a0_5 a0_6 a0_7 a0_8 a0_9 a0_10 a0_11 l0_12 a1_0 a1_1 a1_2 a1_3 a1_4 a1_5 a1_6 a1_7 a1_8 a1_9 l1_10 a2_0 a2_1 a2_2 a2_3 a2_4 a2_5 a2_6 a2_7 a2_8 a2_9 a2_10 a2_11 l2_12)) else (colloquylaw09_InstanceSteps.j0 k a3 t720 true a0_0 a0_1 a0_2 a0_3 a0_4 a0_5 a0_6 a0_7 a0_8 a0_9 a0_10 a0_11 l0_12 a1_0 a1_1 a1_2 a1_3 a1_4 a1_5 a1_6 a1_7 a1_8 a1_9 l1_10 a2_0 a2_1 a2_2 a2_3 a2_4 a2_5 a2_6 a2_7 a2_8 a2_9 a2_10 a2_11 l2_12)))))
def colloquylaw09_InstanceSteps.T10 : Bool × List (List Nat × List Nat) := (true, [([], []), ([0], [0]), ([1], [1]), ([1], [1]), ([2, 3, 1], [1, 2, 3]), ([1, 4], [1, 4]), ([5, 1], [5]), ([6], [6]), ([6], [6]), ([7, 8, 6, 6], [6, 7, 8]), ([6], [6]), ([6], [6]), ([10, 11, 9, 6], [6, 10, 11]), ([9, 12, 6], [6, 9, 12]), ([6, 13], [6, 13]), ([14, 12], [14]), ([15], [15]), ([15], [15]), ([16, 17, 15, 15], [15, 16, 17]), ([15], [15]), ([15], [15]), ([19, 20, 18, 15], [15, 19, 20]), ([18, 21, 15], [15, 18, 21]), ([15, 22], [15, 22]), ([23, 21, 0, 1, 2, 3, 4, 5, 6, 7, 8, 9, 10, 11, 12, 13, 14, 15, 16, 17, 18, 19, 20, 21, 22, 23], [23])])
def colloquylaw09_InstanceSteps.B10 : List Nat := [0, 1, 3, 3, 15, 31, 63, 127, 127, 511, 127, 127, 4095, 8191, 16383, 32767, 65535, 65535, 262143, 65535, 65535, 2097151, 4194303, 8388607, 16777215]
theorem colloquylaw09_InstanceSteps.tab10 : rtab .any (opsOf Try.f6 10) = colloquylaw09_InstanceSteps.T10 := by kernel_rfl
theorem colloquylaw09_InstanceSteps.bits10 : waitsOk colloquylaw09_InstanceSteps.T10.2 colloquylaw09_InstanceSteps.B10 = true := by kernel_rfl
set_option maxHeartbeats 8000000 in
set_option maxRecDepth 100000 in
theorem colloquylaw09_InstanceSteps.calls (k : Nat) (a0_0 : Int) (a0_1 : Int) (a0_2 : Int) (a0_3 : Int) (a0_4 : Int) (a0_5 : Int) (a0_6 : Int) (a0_7 : Int) (a0_8 : Int) (a0_9 : Int) (a0_10 : ByteArray) (a0_11 : Int) (A0_12 : Option Addr) (c0_12 : Nat) (l0_12 : List Int) (a1_0 : Int) (a1_1 : Int) (a1_2 : Int) (a1_3 : Int) (a1_4 : Int) (a1_5 : Int) (a1_6 : Int) (a1_7 : Int) (a1_8 : ByteArray) (a1_9 : Int) (A1_10 : Option Addr) (c1_10 : Nat) (l1_10 : List Int) (a2_0 : Int) (a2_1 : Int) (a2_2 : Int) (a2_3 : Int) (a2_4 : Int) (a2_5 : Int) (a2_6 : Int) (a2_7 : Int) (a2_8 : Int) (a2_9 : Int) (a2_10 : ByteArray) (a2_11 : Int) (A2_12 : Option Addr) (c2_12 : Nat) (l2_12 : List Int) (a3 : Int) (r : Bool) (w : World) (hr0_12 : Kd.C (Kd.int .i64) w A0_12 l0_12.length l0_12) (hc0_12 : l0_12.length ≤ c0_12) (hr1_10 : Kd.C (Kd.int .i64) w A1_10 l1_10.length l1_10) (hc1_10 : l1_10.length ≤ c1_10) (hr2_12 : Kd.C (Kd.int .i64) w A2_12 l2_12.length l2_12) (hc2_12 : l2_12.length ≤ c2_12) (hrt : r = true) (h : colloquylaw09_InstanceSteps.f k a0_0 a0_1 a0_2 a0_3 a0_4 a0_5 a0_6 a0_7 a0_8 a0_9 a0_10 a0_11 l0_12 a1_0 a1_1 a1_2 a1_3 a1_4 a1_5 a1_6 a1_7 a1_8 a1_9 l1_10 a2_0 a2_1 a2_2 a2_3 a2_4 a2_5 a2_6 a2_7 a2_8 a2_9 a2_10 a2_11 l2_12 a3 = some r) :
  Calls Try.prog 6 #[.agg #[.int .i64 a0_0, .int .i64 a0_1, .int .i64 a0_2, .int .i64 a0_3, .int .i64 a0_4, .int .i64 a0_5, .int .i64 a0_6, .int .i64 a0_7, .int .i64 a0_8, .int .i64 a0_9, .string a0_10, .int .i64 a0_11, .slice A0_12 l0_12.length c0_12], .agg #[.int .i64 a1_0, .int .i64 a1_1, .int .i64 a1_2, .int .i64 a1_3, .int .i64 a1_4, .int .i64 a1_5, .int .i64 a1_6, .int .i64 a1_7, .string a1_8, .int .i64 a1_9, .slice A1_10 l1_10.length c1_10], .agg #[.int .i64 a2_0, .int .i64 a2_1, .int .i64 a2_2, .int .i64 a2_3, .int .i64 a2_4, .int .i64 a2_5, .int .i64 a2_6, .int .i64 a2_7, .int .i64 a2_8, .int .i64 a2_9, .string a2_10, .int .i64 a2_11, .slice A2_12 l2_12.length c2_12], .int .i64 a3] w fun e w' => e = .returned (.bool r) ∧ Below w.heap.size w w' := by
 have hu32 := Try.underlying32
 have hu35 := Try.underlying35
 have hu30 := Try.underlying30
 have HRT := Aside0.mk hrt
 clear hrt
 have HR0_12 := Aside0.mk hr0_12
 have HC0_12 := Aside0.mk hc0_12
 clear hr0_12 hc0_12
 have HR1_10 := Aside0.mk hr1_10
 have HC1_10 := Aside0.mk hc1_10
 clear hr1_10 hc1_10
 have HR2_12 := Aside0.mk hr2_12
 have HC2_12 := Aside0.mk hc2_12
 clear hr2_12 hc2_12
 have HB := Aside0.mk (Below.refl w.heap.size w)
 have H : ((colloquylaw09_awake.f).bind fun t720 => ((colloquylaw09_Few.f a0_0 a0_1 a0_2 a0_3 a0_4 a0_5 a0_6 a0_7 a0_8 a0_9 a0_10 a0_11 l0_12).bind fun t721 => ((colloquylaw09_Few.f a2_0 a2_1 a2_2 a2_3 a2_4 a2_5 a2_6 a2_7 a2_8 a2_9 a2_10 a2_11 l2_12).bind fun t722 => ((colloquylaw06_Few.f a1_9 l1_10).bind fun t723 => (if t720 = true then (if t721 = true then (if t722 = true then (colloquylaw09_InstanceSteps.j0 k a3 t720 (!t723) a0_0 a0_1 a0_2 a0_3 a0_4 a0_5 a0_6 a0_7 a0_8 a0_9 a0_10 a0_11 l0_12 a1_0 a1_1 a1_2 a1_3 a1_4 a1_5 a1_6 a1_7 a1_8 a1_9 l1_10 a2_0 a2_1 a2_2 a2_3 a2_4 a2_5 a2_6 a2_7 a2_8 a2_9 a2_10 a2_11 l2_12) else (colloquylaw09_InstanceSteps.j0 k a3 t720 true a0_0 a0_1 a0_2 a0_3 a0_4 a0_5 a0_6 a0_7 a0_8 a0_9 a0_10 a0_11 l0_12 a1_0 a1_1 a1_2 a1_3 a1_4 a1_5 a1_6 a1_7 a1_8 a1_9 l1_10 a2_0 a2_1 a2_2 a2_3 a2_4 a2_5 a2_6 a2_7 a2_8 a2_9 a2_10 a2_11 l2_12)) else (colloquylaw09_InstanceSteps.j0 k a3 t720 true a0_0 a0_1 a0_2 a0_3 a0_4 a0_5 a0_6 a0_7 a0_8 a0_9 a0_10 a0_11 l0_12 a1_0 a1_1 a1_2 a1_3 a1_4 a1_5 a1_6 a1_7 a1_8 a1_9 l1_10 a2_0 a2_1 a2_2 a2_3 a2_4 a2_5 a2_6 a2_7 a2_8 a2_9 a2_10 a2_11 l2_12)) else (colloquylaw09_InstanceSteps.j0 k a3 t720 true a0_0 a0_1 a0_2 a0_3 a0_4 a0_5 a0_6 a0_7 a0_8 a0_9 a0_10 a0_11 l0_12 a1_0 a1_1 a1_2 a1_3 a1_4 a1_5 a1_6 a1_7 a1_8 a1_9 l1_10 a2_0 a2_1 a2_2 a2_3 a2_4 a2_5 a2_6 a2_7 a2_8 a2_9 a2_10 a2_11 l2_12)))))) = some r := h
 clear h
 replace H := Option.bind_eq_some_iff.mp H
 obtain ⟨t720, A50, H⟩ := H
 replace H : ((colloquylaw09_Few.f a0_0 a0_1 a0_2 a0_3 a0_4 a0_5 a0_6 a0_7 a0_8 a0_9 a0_10 a0_11 l0_12).bind fun t721 => ((colloquylaw09_Few.f a2_0 a2_1 a2_2 a2_3 a2_4 a2_5 a2_6 a2_7 a2_8 a2_9 a2_10 a2_11 l2_12).bind fun t722 => ((colloquylaw06_Few.f a1_9 l1_10).bind fun t723 => (if t720 = true then (if t721 = true then (if t722 = true then (colloquylaw09_InstanceSteps.j0 k a3 t720 (!t723) a0_0 a0_1 a0_2 a0_3 a0_4 a0_5 a0_6 a0_7 a0_8 a0_9 a0_10 a0_11 l0_12 a1_0 a1_1 a1_2 a1_3 a1_4 a1_5 a1_6 a1_7 a1_8 a1_9 l1_10 a2_0 a2_1 a2_2 a2_3 a2_4 a2_5 a2_6 a2_7 a2_8 a2_9 a2_10 a2_11 l2_12) else (colloquylaw09_InstanceSteps.j0 k a3 t720 true a0_0 a0_1 a0_2 a0_3 a0_4 a0_5 a0_6 a0_7 a0_8 a0_9 a0_10 a0_11 l0_12 a1_0 a1_1 a1_2 a1_3 a1_4 a1_5 a1_6 a1_7 a1_8 a1_9 l1_10 a2_0 a2_1 a2_2 a2_3 a2_4 a2_5 a2_6 a2_7 a2_8 a2_9 a2_10 a2_11 l2_12)) else (colloquylaw09_InstanceSteps.j0 k a3 t720 true a0_0 a0_1 a0_2 a0_3 a0_4 a0_5 a0_6 a0_7 a0_8 a0_9 a0_10 a0_11 l0_12 a1_0 a1_1 a1_2 a1_3 a1_4 a1_5 a1_6 a1_7 a1_8 a1_9 l1_10 a2_0 a2_1 a2_2 a2_3 a2_4 a2_5 a2_6 a2_7 a2_8 a2_9 a2_10 a2_11 l2_12)) else (colloquylaw09_InstanceSteps.j0 k a3 t720 true a0_0 a0_1 a0_2 a0_3 a0_4 a0_5 a0_6 a0_7 a0_8 a0_9 a0_10 a0_11 l0_12 a1_0 a1_1 a1_2 a1_3 a1_4 a1_5 a1_6 a1_7 a1_8 a1_9 l1_10 a2_0 a2_1 a2_2 a2_3 a2_4 a2_5 a2_6 a2_7 a2_8 a2_9 a2_10 a2_11 l2_12))))) = some r := H
 have A5 := Aside0.mk A50
 clear A50
 replace H := Option.bind_eq_some_iff.mp H
 obtain ⟨t721, A60, H⟩ := H
 replace H : ((colloquylaw09_Few.f a2_0 a2_1 a2_2 a2_3 a2_4 a2_5 a2_6 a2_7 a2_8 a2_9 a2_10 a2_11 l2_12).bind fun t722 => ((colloquylaw06_Few.f a1_9 l1_10).bind fun t723 => (if t720 = true then (if t721 = true then (if t722 = true then (colloquylaw09_InstanceSteps.j0 k a3 t720 (!t723) a0_0 a0_1 a0_2 a0_3 a0_4 a0_5 a0_6 a0_7 a0_8 a0_9 a0_10 a0_11 l0_12 a1_0 a1_1 a1_2 a1_3 a1_4 a1_5 a1_6 a1_7 a1_8 a1_9 l1_10 a2_0 a2_1 a2_2 a2_3 a2_4 a2_5 a2_6 a2_7 a2_8 a2_9 a2_10 a2_11 l2_12) else (colloquylaw09_InstanceSteps.j0 k a3 t720 true a0_0 a0_1 a0_2 a0_3 a0_4 a0_5 a0_6 a0_7 a0_8 a0_9 a0_10 a0_11 l0_12 a1_0 a1_1 a1_2 a1_3 a1_4 a1_5 a1_6 a1_7 a1_8 a1_9 l1_10 a2_0 a2_1 a2_2 a2_3 a2_4 a2_5 a2_6 a2_7 a2_8 a2_9 a2_10 a2_11 l2_12)) else (colloquylaw09_InstanceSteps.j0 k a3 t720 true a0_0 a0_1 a0_2 a0_3 a0_4 a0_5 a0_6 a0_7 a0_8 a0_9 a0_10 a0_11 l0_12 a1_0 a1_1 a1_2 a1_3 a1_4 a1_5 a1_6 a1_7 a1_8 a1_9 l1_10 a2_0 a2_1 a2_2 a2_3 a2_4 a2_5 a2_6 a2_7 a2_8 a2_9 a2_10 a2_11 l2_12)) else (colloquylaw09_InstanceSteps.j0 k a3 t720 true a0_0 a0_1 a0_2 a0_3 a0_4 a0_5 a0_6 a0_7 a0_8 a0_9 a0_10 a0_11 l0_12 a1_0 a1_1 a1_2 a1_3 a1_4 a1_5 a1_6 a1_7 a1_8 a1_9 l1_10 a2_0 a2_1 a2_2 a2_3 a2_4 a2_5 a2_6 a2_7 a2_8 a2_9 a2_10 a2_11 l2_12)))) = some r := H
 have A6 := Aside0.mk A60
 clear A60
 replace H := Option.bind_eq_some_iff.mp H
 obtain ⟨t722, A70, H⟩ := H
 replace H : ((colloquylaw06_Few.f a1_9 l1_10).bind fun t723 => (if t720 = true then (if t721 = true then (if t722 = true then (colloquylaw09_InstanceSteps.j0 k a3 t720 (!t723) a0_0 a0_1 a0_2 a0_3 a0_4 a0_5 a0_6 a0_7 a0_8 a0_9 a0_10 a0_11 l0_12 a1_0 a1_1 a1_2 a1_3 a1_4 a1_5 a1_6 a1_7 a1_8 a1_9 l1_10 a2_0 a2_1 a2_2 a2_3 a2_4 a2_5 a2_6 a2_7 a2_8 a2_9 a2_10 a2_11 l2_12) else (colloquylaw09_InstanceSteps.j0 k a3 t720 true a0_0 a0_1 a0_2 a0_3 a0_4 a0_5 a0_6 a0_7 a0_8 a0_9 a0_10 a0_11 l0_12 a1_0 a1_1 a1_2 a1_3 a1_4 a1_5 a1_6 a1_7 a1_8 a1_9 l1_10 a2_0 a2_1 a2_2 a2_3 a2_4 a2_5 a2_6 a2_7 a2_8 a2_9 a2_10 a2_11 l2_12)) else (colloquylaw09_InstanceSteps.j0 k a3 t720 true a0_0 a0_1 a0_2 a0_3 a0_4 a0_5 a0_6 a0_7 a0_8 a0_9 a0_10 a0_11 l0_12 a1_0 a1_1 a1_2 a1_3 a1_4 a1_5 a1_6 a1_7 a1_8 a1_9 l1_10 a2_0 a2_1 a2_2 a2_3 a2_4 a2_5 a2_6 a2_7 a2_8 a2_9 a2_10 a2_11 l2_12)) else (colloquylaw09_InstanceSteps.j0 k a3 t720 true a0_0 a0_1 a0_2 a0_3 a0_4 a0_5 a0_6 a0_7 a0_8 a0_9 a0_10 a0_11 l0_12 a1_0 a1_1 a1_2 a1_3 a1_4 a1_5 a1_6 a1_7 a1_8 a1_9 l1_10 a2_0 a2_1 a2_2 a2_3 a2_4 a2_5 a2_6 a2_7 a2_8 a2_9 a2_10 a2_11 l2_12))) = some r := H
 have A7 := Aside0.mk A70
 clear A70
 replace H := Option.bind_eq_some_iff.mp H
 obtain ⟨t723, A80, H⟩ := H
 replace H : (if t720 = true then (if t721 = true then (if t722 = true then (colloquylaw09_InstanceSteps.j0 k a3 t720 (!t723) a0_0 a0_1 a0_2 a0_3 a0_4 a0_5 a0_6 a0_7 a0_8 a0_9 a0_10 a0_11 l0_12 a1_0 a1_1 a1_2 a1_3 a1_4 a1_5 a1_6 a1_7 a1_8 a1_9 l1_10 a2_0 a2_1 a2_2 a2_3 a2_4 a2_5 a2_6 a2_7 a2_8 a2_9 a2_10 a2_11 l2_12) else (colloquylaw09_InstanceSteps.j0 k a3 t720 true a0_0 a0_1 a0_2 a0_3 a0_4 a0_5 a0_6 a0_7 a0_8 a0_9 a0_10 a0_11 l0_12 a1_0 a1_1 a1_2 a1_3 a1_4 a1_5 a1_6 a1_7 a1_8 a1_9 l1_10 a2_0 a2_1 a2_2 a2_3 a2_4 a2_5 a2_6 a2_7 a2_8 a2_9 a2_10 a2_11 l2_12)) else (colloquylaw09_InstanceSteps.j0 k a3 t720 true a0_0 a0_1 a0_2 a0_3 a0_4 a0_5 a0_6 a0_7 a0_8 a0_9 a0_10 a0_11 l0_12 a1_0 a1_1 a1_2 a1_3 a1_4 a1_5 a1_6 a1_7 a1_8 a1_9 l1_10 a2_0 a2_1 a2_2 a2_3 a2_4 a2_5 a2_6 a2_7 a2_8 a2_9 a2_10 a2_11 l2_12)) else (colloquylaw09_InstanceSteps.j0 k a3 t720 true a0_0 a0_1 a0_2 a0_3 a0_4 a0_5 a0_6 a0_7 a0_8 a0_9 a0_10 a0_11 l0_12 a1_0 a1_1 a1_2 a1_3 a1_4 a1_5 a1_6 a1_7 a1_8 a1_9 l1_10 a2_0 a2_1 a2_2 a2_3 a2_4 a2_5 a2_6 a2_7 a2_8 a2_9 a2_10 a2_11 l2_12)) = some r := H
 have A8 := Aside0.mk A80
 clear A80
 have HC9 := Aside0.mk H
 clear H
 go_enter Try.func6, Try.ntmps6
 go_upto_region 5 with (first | ((with_reducible refine gate_dst (N := 4) rfl ?_); refine box_event ?hg (N := 4) ?hd (cs := #[.int .i64 a0_0, .int .i64 a0_1, .int .i64 a0_2, .int .i64 a0_3, .int .i64 a0_4, .int .i64 a0_5, .int .i64 a0_6, .int .i64 a0_7, .int .i64 a0_8, .int .i64 a0_9, .string a0_10, .int .i64 a0_11, .slice A0_12 l0_12.length c0_12]) (t := 32) ?hr ?_; (case hd => rfl); (case hg => rfl); (case hr => first | (go_simp; done) | (go_simp; rfl)); intro gb717 hg w10 hbox hb; have s_ := step_size_ (gw_ HB) hb hg; have n0_ := Aside0.mk s_.1; have n1_ := Aside0.mk (hbox); have n2_ := Aside0.mk s_.2; clear s_; have n3_ := n2_; clear HB; have HB := n0_; have BK717 := n1_; have GW717 := n2_; have GE717 := n3_; clear n0_ n1_ n2_ n3_; clear hb hbox hg) | ((with_reducible refine gate_dst (N := 5) rfl ?_); refine box_event ?hg (N := 5) ?hd (cs := #[.int .i64 a1_0, .int .i64 a1_1, .int .i64 a1_2, .int .i64 a1_3, .int .i64 a1_4, .int .i64 a1_5, .int .i64 a1_6, .int .i64 a1_7, .string a1_8, .int .i64 a1_9, .slice A1_10 l1_10.length c1_10]) (t := 35) ?hr ?_; (case hd => rfl); (case hg => rfl); (case hr => first | (go_simp; done) | (go_simp; rfl)); intro gb718 hg w11 hbox hb; have n0_ := Aside0.mk (blk_below (g := gb717) (bk BK717) hb); have s_ := step_size_ (gw_ HB) hb hg; have n1_ := Aside0.mk s_.1; have n2_ := Aside0.mk (hbox); have n3_ := Aside0.mk s_.2; clear s_; have n4_ := n3_; have l_ := blk_lt_ (g := gb717) hg (bk BK717); have n5_ := Aside0.mk (Nat.ne_of_lt l_); have n6_ := Aside0.mk (Nat.ne_of_gt l_); clear l_; clear BK717; clear HB; have BK717 := n0_; have HB := n1_; have BK718 := n2_; have GW718 := n3_; have GE718 := n4_; have NB717_718 := n5_; have NB718_717 := n6_; clear n0_ n1_ n2_ n3_ n4_ n5_ n6_; clear hb hbox hg) | ((with_reducible refine gate_dst (N := 6) rfl ?_); refine box_event ?hg (N := 6) ?hd (cs := #[.int .i64 a2_0, .int .i64 a2_1, .int .i64 a2_2, .int .i64 a2_3, .int .i64 a2_4, .int .i64 a2_5, .int .i64 a2_6, .int .i64 a2_7, .int .i64 a2_8, .int .i64 a2_9, .string a2_10, .int .i64 a2_11, .slice A2_12 l2_12.length c2_12]) (t := 32) ?hr ?_; (case hd => rfl); (case hg => rfl); (case hr => first | (go_simp; done) | (go_simp; rfl)); intro gb719 hg w12 hbox hb; have n0_ := Aside0.mk (blk_below (g := gb717) (bk BK717) hb); have n1_ := Aside0.mk (blk_below (g := gb718) (bk BK718) hb); have s_ := step_size_ (gw_ HB) hb hg; have n2_ := Aside0.mk s_.1; have n3_ := Aside0.mk (hbox); have n4_ := Aside0.mk s_.2; clear s_; have n5_ := n4_; have l_ := blk_lt_ (g := gb717) hg (bk BK717); have n6_ := Aside0.mk (Nat.ne_of_lt l_); have n7_ := Aside0.mk (Nat.ne_of_gt l_); clear l_; have l_ := blk_lt_ (g := gb718) hg (bk BK718); have n8_ := Aside0.mk (Nat.ne_of_lt l_); have n9_ := Aside0.mk (Nat.ne_of_gt l_); clear l_; clear BK717; clear BK718; clear HB; have BK717 := n0_; have BK718 := n1_; have HB := n2_; have BK719 := n3_; have GW719 := n4_; have GE719 := n5_; have NB717_719 := n6_; have NB719_717 := n7_; have NB718_719 := n8_; have NB719_718 := n9_; clear n0_ n1_ n2_ n3_ n4_ n5_ n6_ n7_ n8_ n9_; clear hb hbox hg) | ((with_reducible refine gate_callee (f := 8) rfl ?_); refine goesL_ (some 18) rfl rfl Try.func8 (by kernel_rfl) rfl #[] rfl (by (try simp only [List.map_toArray, List.map_cons, List.map_nil]); first | done | rfl | (simp only [List.length_drop, List.length_take]; rfl)) ?_; (with_reducible refine (colloquylaw09_awake.calls  t720 _ A5.out).mono ?_); rintro e w13 ⟨rfl, hb⟩; refine ⟨_, rfl, ?_⟩; have n0_ := Aside0.mk (blk_below (g := gb717) (bk BK717) hb); have n1_ := Aside0.mk (blk_below (g := gb718) (bk BK718) hb); have n2_ := Aside0.mk (blk_below (g := gb719) (bk BK719) hb); have n3_ := Aside0.mk (below_step (gw_ HB) hb); clear BK717; clear BK718; clear BK719; clear HB; have BK717 := n0_; have BK718 := n1_; have BK719 := n2_; have HB := n3_; clear n0_ n1_ n2_ n3_; (try clear hb); (try clear hb2); (try clear hk); (try clear hi); have hnb14 := NB717_718.out; have hnc14 := NB718_717.out; have hnb15 := NB717_719.out; have hnc15 := NB719_717.out; obtain ⟨hcz16_0, hcz16_1, hcz16_2, hcz16_3, hcz16_4, hcz16_5, hcz16_6, hcz16_7, hcz16_8, hcz16_9, hcz16_10, hcz16_11, hcz16_12⟩ := blk_cells13 BK717.out; obtain ⟨hfz16_0, hfz16_1, hfz16_2, hfz16_3, hfz16_4, hfz16_5, hfz16_6, hfz16_7, hfz16_8, hfz16_9, hfz16_10, hfz16_11, hfz16_12⟩ := blk_frozens13 BK717.out) | ((with_reducible refine gate_callee (f := 13) rfl ?_); refine goesL_ (some 20) rfl rfl Try.func13 (by kernel_rfl) rfl #[.agg #[.int .i64 a0_0, .int .i64 a0_1, .int .i64 a0_2, .int .i64 a0_3, .int .i64 a0_4, .int .i64 a0_5, .int .i64 a0_6, .int .i64 a0_7, .int .i64 a0_8, .int .i64 a0_9, .string a0_10, .int .i64 a0_11, .slice A0_12 l0_12.length c0_12]] rfl (by (try simp only [List.map_toArray, List.map_cons, List.map_nil]); first | done | rfl | (simp only [List.length_drop, List.length_take]; rfl)) ?_; (with_reducible refine (colloquylaw09_Few.calls a0_0 a0_1 a0_2 a0_3 a0_4 a0_5 a0_6 a0_7 a0_8 a0_9 a0_10 a0_11 _ _ l0_12 t721 _ ?side1 ?side2 A6.out).mono ?_); (case side1 => repeat (first | exact (Kd.C_below HR0_12.out HB.out) | (with_reducible refine Kd.C_alloc ?_ _) | (with_reducible refine Kd.C_drewN ?_ _) | (with_reducible refine Kd.C_drew ?_))); (case side2 => exact HC0_12.out); rintro e w17 ⟨rfl, hb⟩; refine ⟨_, rfl, ?_⟩; have n0_ := Aside0.mk (blk_below (g := gb717) (bk BK717) hb); have n1_ := Aside0.mk (blk_below (g := gb718) (bk BK718) hb); have n2_ := Aside0.mk (blk_below (g := gb719) (bk BK719) hb); have n3_ := Aside0.mk (below_step (gw_ HB) hb); clear BK717; clear BK718; clear BK719; clear HB; have BK717 := n0_; have BK718 := n1_; have BK719 := n2_; have HB := n3_; clear n0_ n1_ n2_ n3_; (try clear hb); (try clear hb2); (try clear hk); (try clear hi); have hnb18 := NB719_718.out; have hnc18 := NB718_719.out; obtain ⟨hcz19_0, hcz19_1, hcz19_2, hcz19_3, hcz19_4, hcz19_5, hcz19_6, hcz19_7, hcz19_8, hcz19_9, hcz19_10, hcz19_11, hcz19_12⟩ := blk_cells13 BK719.out; obtain ⟨hfz19_0, hfz19_1, hfz19_2, hfz19_3, hfz19_4, hfz19_5, hfz19_6, hfz19_7, hfz19_8, hfz19_9, hfz19_10, hfz19_11, hfz19_12⟩ := blk_frozens13 BK719.out) | ((with_reducible refine gate_callee (f := 13) rfl ?_); refine goesL_ (some 22) rfl rfl Try.func13 (by kernel_rfl) rfl #[.agg #[.int .i64 a2_0, .int .i64 a2_1, .int .i64 a2_2, .int .i64 a2_3, .int .i64 a2_4, .int .i64 a2_5, .int .i64 a2_6, .int .i64 a2_7, .int .i64 a2_8, .int .i64 a2_9, .string a2_10, .int .i64 a2_11, .slice A2_12 l2_12.length c2_12]] rfl (by (try simp only [List.map_toArray, List.map_cons, List.map_nil]); first | done | rfl | (simp only [List.length_drop, List.length_take]; rfl)) ?_; (with_reducible refine (colloquylaw09_Few.calls a2_0 a2_1 a2_2 a2_3 a2_4 a2_5 a2_6 a2_7 a2_8 a2_9 a2_10 a2_11 _ _ l2_12 t722 _ ?side1 ?side2 A7.out).mono ?_); (case side1 => repeat (first | exact (Kd.C_below HR2_12.out HB.out) | (with_reducible refine Kd.C_alloc ?_ _) | (with_reducible refine Kd.C_drewN ?_ _) | (with_reducible refine Kd.C_drew ?_))); (case side2 => exact HC2_12.out); rintro e w20 ⟨rfl, hb⟩; refine ⟨_, rfl, ?_⟩; have n0_ := Aside0.mk (blk_below (g := gb717) (bk BK717) hb); have n1_ := Aside0.mk (blk_below (g := gb718) (bk BK718) hb); have n2_ := Aside0.mk (blk_below (g := gb719) (bk BK719) hb); have n3_ := Aside0.mk (below_step (gw_ HB) hb); clear BK717; clear BK718; clear BK719; clear HB; have BK717 := n0_; have BK718 := n1_; have BK719 := n2_; have HB := n3_; clear n0_ n1_ n2_ n3_; (try clear hb); (try clear hb2); (try clear hk); (try clear hi); obtain ⟨hcz21_0, hcz21_1, hcz21_2, hcz21_3, hcz21_4, hcz21_5, hcz21_6, hcz21_7, hcz21_8, hcz21_9, hcz21_10⟩ := blk_cells11 BK718.out; obtain ⟨hfz21_0, hfz21_1, hfz21_2, hfz21_3, hfz21_4, hfz21_5, hfz21_6, hfz21_7, hfz21_8, hfz21_9, hfz21_10⟩ := blk_frozens11 BK718.out) | ((with_reducible refine gate_callee (f := 9) rfl ?_); refine goesL_ (some 25) rfl rfl Try.func9 (by kernel_rfl) rfl #[.agg #[.int .i64 a1_9, .slice A1_10 l1_10.length c1_10]] rfl (by (try simp only [List.map_toArray, List.map_cons, List.map_nil]); first | done | rfl | (simp only [List.length_drop, List.length_take]; rfl)) ?_; (with_reducible refine (colloquylaw06_Few.calls a1_9 _ _ l1_10 t723 _ ?side1 ?side2 A8.out).mono ?_); (case side1 => repeat (first | exact (Kd.C_below HR1_10.out HB.out) | (with_reducible refine Kd.C_alloc ?_ _) | (with_reducible refine Kd.C_drewN ?_ _) | (with_reducible refine Kd.C_drew ?_))); (case side2 => exact HC1_10.out); rintro e w22 ⟨rfl, hb⟩; refine ⟨_, rfl, ?_⟩; have n0_ := Aside0.mk (blk_below (g := gb717) (bk BK717) hb); have n1_ := Aside0.mk (blk_below (g := gb718) (bk BK718) hb); have n2_ := Aside0.mk (blk_below (g := gb719) (bk BK719) hb); have n3_ := Aside0.mk (below_step (gw_ HB) hb); clear BK717; clear BK718; clear BK719; clear HB; have BK717 := n0_; have BK718 := n1_; have BK719 := n2_; have HB := n3_; clear n0_ n1_ n2_ n3_; (try clear hb); (try clear hb2); (try clear hk); (try clear hi)))
 (try simp only [Act.put, List.setIfInBounds_toArray, List.set_cons_zero, List.set_cons_succ])
 go_cut [39] (fun v39 wc => ∃ (kq : Nat) (x39_8 : Bool), v39 = .bool x39_8 ∧ Aside0 (colloquylaw09_InstanceSteps.j0 kq a3 t720 x39_8 a0_0 a0_1 a0_2 a0_3 a0_4 a0_5 a0_6 a0_7 a0_8 a0_9 a0_10 a0_11 l0_12 a1_0 a1_1 a1_2 a1_3 a1_4 a1_5 a1_6 a1_7 a1_8 a1_9 l1_10 a2_0 a2_1 a2_2 a2_3 a2_4 a2_5 a2_6 a2_7 a2_8 a2_9 a2_10 a2_11 l2_12 = some r) ∧ Aside0 (kq ≤ k) ∧ Aside0 (wc.heap[gb717]? = some (.cells #[.int .i64 a0_0, .int .i64 a0_1, .int .i64 a0_2, .int .i64 a0_3, .int .i64 a0_4, .int .i64 a0_5, .int .i64 a0_6, .int .i64 a0_7, .int .i64 a0_8, .int .i64 a0_9, .string a0_10, .int .i64 a0_11, (.slice A0_12 l0_12.length c0_12)] 32 (0, 0))) ∧ Aside0 (wc.heap[gb718]? = some (.cells #[.int .i64 a1_0, .int .i64 a1_1, .int .i64 a1_2, .int .i64 a1_3, .int .i64 a1_4, .int .i64 a1_5, .int .i64 a1_6, .int .i64 a1_7, .string a1_8, .int .i64 a1_9, (.slice A1_10 l1_10.length c1_10)] 35 (0, 0))) ∧ Aside0 (wc.heap[gb719]? = some (.cells #[.int .i64 a2_0, .int .i64 a2_1, .int .i64 a2_2, .int .i64 a2_3, .int .i64 a2_4, .int .i64 a2_5, .int .i64 a2_6, .int .i64 a2_7, .int .i64 a2_8, .int .i64 a2_9, .string a2_10, .int .i64 a2_11, (.slice A2_12 l2_12.length c2_12)] 32 (0, 0))) ∧ Aside0 (Below w.heap.size w wc))
 case first =>
  have H := HC9.out
  clear HC9
  by_cases c23 : t720 = true
  ·
   subst c23
   have H1 : (if t721 = true then (if t722 = true then (colloquylaw09_InstanceSteps.j0 k a3 true (!t723) a0_0 a0_1 a0_2 a0_3 a0_4 a0_5 a0_6 a0_7 a0_8 a0_9 a0_10 a0_11 l0_12 a1_0 a1_1 a1_2 a1_3 a1_4 a1_5 a1_6 a1_7 a1_8 a1_9 l1_10 a2_0 a2_1 a2_2 a2_3 a2_4 a2_5 a2_6 a2_7 a2_8 a2_9 a2_10 a2_11 l2_12) else (colloquylaw09_InstanceSteps.j0 k a3 true true a0_0 a0_1 a0_2 a0_3 a0_4 a0_5 a0_6 a0_7 a0_8 a0_9 a0_10 a0_11 l0_12 a1_0 a1_1 a1_2 a1_3 a1_4 a1_5 a1_6 a1_7 a1_8 a1_9 l1_10 a2_0 a2_1 a2_2 a2_3 a2_4 a2_5 a2_6 a2_7 a2_8 a2_9 a2_10 a2_11 l2_12)) else (colloquylaw09_InstanceSteps.j0 k a3 true true a0_0 a0_1 a0_2 a0_3 a0_4 a0_5 a0_6 a0_7 a0_8 a0_9 a0_10 a0_11 l0_12 a1_0 a1_1 a1_2 a1_3 a1_4 a1_5 a1_6 a1_7 a1_8 a1_9 l1_10 a2_0 a2_1 a2_2 a2_3 a2_4 a2_5 a2_6 a2_7 a2_8 a2_9 a2_10 a2_11 l2_12)) = some r := by rw [if_pos rfl] at H; exact H
   clear H
   have H := H1
   clear H1
   by_cases c24 : t721 = true
   ·
    subst c24
    have H1 : (if t722 = true then (colloquylaw09_InstanceSteps.j0 k a3 true (!t723) a0_0 a0_1 a0_2 a0_3 a0_4 a0_5 a0_6 a0_7 a0_8 a0_9 a0_10 a0_11 l0_12 a1_0 a1_1 a1_2 a1_3 a1_4 a1_5 a1_6 a1_7 a1_8 a1_9 l1_10 a2_0 a2_1 a2_2 a2_3 a2_4 a2_5 a2_6 a2_7 a2_8 a2_9 a2_10 a2_11 l2_12) else (colloquylaw09_InstanceSteps.j0 k a3 true true a0_0 a0_1 a0_2 a0_3 a0_4 a0_5 a0_6 a0_7 a0_8 a0_9 a0_10 a0_11 l0_12 a1_0 a1_1 a1_2 a1_3 a1_4 a1_5 a1_6 a1_7 a1_8 a1_9 l1_10 a2_0 a2_1 a2_2 a2_3 a2_4 a2_5 a2_6 a2_7 a2_8 a2_9 a2_10 a2_11 l2_12)) = some r := by rw [if_pos rfl] at H; exact H
    clear H
    have H := H1
    clear H1
    by_cases c25 : t722 = true
    ·
     subst c25
     have H1 : (colloquylaw09_InstanceSteps.j0 k a3 true (!t723) a0_0 a0_1 a0_2 a0_3 a0_4 a0_5 a0_6 a0_7 a0_8 a0_9 a0_10 a0_11 l0_12 a1_0 a1_1 a1_2 a1_3 a1_4 a1_5 a1_6 a1_7 a1_8 a1_9 l1_10 a2_0 a2_1 a2_2 a2_3 a2_4 a2_5 a2_6 a2_7 a2_8 a2_9 a2_10 a2_11 l2_12) = some r := by rw [if_pos rfl] at H; exact H
     clear H
     have H := H1
     clear H1
     have H' := Aside0.mk H
     clear H
     go_wp2
     go_meet
     case rel => exact ⟨_, (!t723), (by first | rfl | (simp; done) | (simp [*]; done)), H', ⟨by first | omega | exact Nat.le_refl _⟩, ⟨by (with_reducible repeat (first | refine blk_drewN ?_ _ | refine blk_drew ?_ | refine blk_alloc ?_ _)); exact BK717.out⟩, ⟨by (with_reducible repeat (first | refine blk_drewN ?_ _ | refine blk_drew ?_ | refine blk_alloc ?_ _)); exact BK718.out⟩, ⟨by (with_reducible repeat (first | refine blk_drewN ?_ _ | refine blk_drew ?_ | refine blk_alloc ?_ _)); exact BK719.out⟩, ⟨gw_ HB⟩⟩
    ·
     replace c25 := Bool.eq_false_iff.mpr c25
     subst c25
     have H1 : (colloquylaw09_InstanceSteps.j0 k a3 true true a0_0 a0_1 a0_2 a0_3 a0_4 a0_5 a0_6 a0_7 a0_8 a0_9 a0_10 a0_11 l0_12 a1_0 a1_1 a1_2 a1_3 a1_4 a1_5 a1_6 a1_7 a1_8 a1_9 l1_10 a2_0 a2_1 a2_2 a2_3 a2_4 a2_5 a2_6 a2_7 a2_8 a2_9 a2_10 a2_11 l2_12) = some r := by rw [if_neg (show ¬ (false = true) by decide)] at H; exact H
     clear H
     have H := H1
     clear H1
     have H' := Aside0.mk H
     clear H
     go_wp2
     go_meet
     case rel => exact ⟨_, (true), (by first | rfl | (simp; done) | (simp [*]; done)), H', ⟨by first | omega | exact Nat.le_refl _⟩, ⟨by (with_reducible repeat (first | refine blk_drewN ?_ _ | refine blk_drew ?_ | refine blk_alloc ?_ _)); exact BK717.out⟩, ⟨by (with_reducible repeat (first | refine blk_drewN ?_ _ | refine blk_drew ?_ | refine blk_alloc ?_ _)); exact BK718.out⟩, ⟨by (with_reducible repeat (first | refine blk_drewN ?_ _ | refine blk_drew ?_ | refine blk_alloc ?_ _)); exact BK719.out⟩, ⟨gw_ HB⟩⟩
   ·
    replace c24 := Bool.eq_false_iff.mpr c24
    subst c24
    have H1 : (colloquylaw09_InstanceSteps.j0 k a3 true true a0_0 a0_1 a0_2 a0_3 a0_4 a0_5 a0_6 a0_7 a0_8 a0_9 a0_10 a0_11 l0_12 a1_0 a1_1 a1_2 a1_3 a1_4 a1_5 a1_6 a1_7 a1_8 a1_9 l1_10 a2_0 a2_1 a2_2 a2_3 a2_4 a2_5 a2_6 a2_7 a2_8 a2_9 a2_10 a2_11 l2_12) = some r := by rw [if_neg (show ¬ (false = true) by decide)] at H; exact H
    clear H
    have H := H1
    clear H1
    have H' := Aside0.mk H
    clear H
    go_wp2
    go_meet
    case rel => exact ⟨_, (true), (by first | rfl | (simp; done) | (simp [*]; done)), H', ⟨by first | omega | exact Nat.le_refl _⟩, ⟨by (with_reducible repeat (first | refine blk_drewN ?_ _ | refine blk_drew ?_ | refine blk_alloc ?_ _)); exact BK717.out⟩, ⟨by (with_reducible repeat (first | refine blk_drewN ?_ _ | refine blk_drew ?_ | refine blk_alloc ?_ _)); exact BK718.out⟩, ⟨by (with_reducible repeat (first | refine blk_drewN ?_ _ | refine blk_drew ?_ | refine blk_alloc ?_ _)); exact BK719.out⟩, ⟨gw_ HB⟩⟩
  ·
   replace c23 := Bool.eq_false_iff.mpr c23
   subst c23
   have H1 : (colloquylaw09_InstanceSteps.j0 k a3 false true a0_0 a0_1 a0_2 a0_3 a0_4 a0_5 a0_6 a0_7 a0_8 a0_9 a0_10 a0_11 l0_12 a1_0 a1_1 a1_2 a1_3 a1_4 a1_5 a1_6 a1_7 a1_8 a1_9 l1_10 a2_0 a2_1 a2_2 a2_3 a2_4 a2_5 a2_6 a2_7 a2_8 a2_9 a2_10 a2_11 l2_12) = some r := by rw [if_neg (show ¬ (false = true) by decide)] at H; exact H
   clear H
   have H := H1
   clear H1
   have H' := Aside0.mk H
   clear H
   go_wp2
   go_meet
   case rel => exact ⟨_, (true), (by first | rfl | (simp; done) | (simp [*]; done)), H', ⟨by first | omega | exact Nat.le_refl _⟩, ⟨by (with_reducible repeat (first | refine blk_drewN ?_ _ | refine blk_drew ?_ | refine blk_alloc ?_ _)); exact BK717.out⟩, ⟨by (with_reducible repeat (first | refine blk_drewN ?_ _ | refine blk_drew ?_ | refine blk_alloc ?_ _)); exact BK718.out⟩, ⟨by (with_reducible repeat (first | refine blk_drewN ?_ _ | refine blk_drew ?_ | refine blk_alloc ?_ _)); exact BK719.out⟩, ⟨gw_ HB⟩⟩
 case rest =>
  clear HC9
  try clear c1
  try clear c2
  try clear p2
  try clear c6
  try clear c8
  try clear c9
  try clear c13
  try clear c14
  try clear c15
  try clear c18
  try clear c23
  try clear c24
  try clear c25
  try clear hcz16_0
  try clear hcz16_1
  try clear hcz16_10
  try clear hcz16_11
  try clear hcz16_12
  try clear hcz16_2
  try clear hcz16_3
  try clear hcz16_4
  try clear hcz16_5
  try clear hcz16_6
  try clear hcz16_7
  try clear hcz16_8
  try clear hcz16_9
  try clear hcz19_0
  try clear hcz19_1
  try clear hcz19_10
  try clear hcz19_11
  try clear hcz19_12
  try clear hcz19_2
  try clear hcz19_3
  try clear hcz19_4
  try clear hcz19_5
  try clear hcz19_6
  try clear hcz19_7
  try clear hcz19_8
  try clear hcz19_9
  try clear hcz21_0
  try clear hcz21_1
  try clear hcz21_10
  try clear hcz21_2
  try clear hcz21_3
  try clear hcz21_4
  try clear hcz21_5
  try clear hcz21_6
  try clear hcz21_7
  try clear hcz21_8
  try clear hcz21_9
  try clear hfz16_0
  try clear hfz16_1
  try clear hfz16_10
  try clear hfz16_11
  try clear hfz16_12
  try clear hfz16_2
  try clear hfz16_3
  try clear hfz16_4
  try clear hfz16_5
  try clear hfz16_6
  try clear hfz16_7
  try clear hfz16_8
  try clear hfz16_9
  try clear hfz19_0
  try clear hfz19_1
  try clear hfz19_10
  try clear hfz19_11
  try clear hfz19_12
  try clear hfz19_2
  try clear hfz19_3
  try clear hfz19_4
  try clear hfz19_5
  try clear hfz19_6
  try clear hfz19_7
  try clear hfz19_8
  try clear hfz19_9
  try clear hfz21_0
  try clear hfz21_1
  try clear hfz21_10
  try clear hfz21_2
  try clear hfz21_3
  try clear hfz21_4
  try clear hfz21_5
  try clear hfz21_6
  try clear hfz21_7
  try clear hfz21_8
  try clear hfz21_9
  obtain ⟨kq, x39_8, rfl, HA, HJ8, BK717, BK718, BK719, HB⟩ := hcut
  cases kq with
  | zero => exact absurd HA.out (by simp [colloquylaw09_InstanceSteps.j0])
  | succ kj8 =>
   have H := HA.out
   clear HA
   simp only [colloquylaw09_InstanceSteps.j0] at H
   by_cases c26 : x39_8 = true
   ·
    subst c26
    have H1 : (some t720) = some r := by rw [if_pos rfl] at H; exact H
    clear H
    have H := H1
    clear H1
    obtain rfl := Option.some.inj H
    go_wp2
    go_ret
    exact ⟨by first | rfl | (simp [errW_none, errW_some] <;> rfl) | (simp [*, errW_none, errW_some] <;> rfl), gw_ HB⟩
   ·
    replace c26 := Bool.eq_false_iff.mpr c26
    subst c26
    have H1 : ((colloquylaw09_does.f kj8 a0_0 a0_1 a0_2 a0_3 a0_4 a0_5 a0_6 a0_7 a0_8 a0_9 a0_10 a0_11 l0_12 a1_0 a1_1 a1_2 a1_3 a1_4 a1_5 a1_6 a1_7 a1_8 a1_9 l1_10).bind fun bt724 => ((colloquylaw09_did.f kj8 a0_0 a0_1 a0_2 a0_3 a0_4 a0_5 a0_6 a0_7 a0_8 a0_9 a0_10 a0_11 l0_12 a1_0 a1_1 a1_2 a1_3 a1_4 a1_5 a1_6 a1_7 a1_8 a1_9 l1_10).bind fun bt741 => ((colloquyref09_Same.f kj8 bt724.1 bt724.2.1 bt724.2.2.1 bt724.2.2.2.1 bt724.2.2.2.2.1 bt724.2.2.2.2.2.1 bt724.2.2.2.2.2.2.1 bt724.2.2.2.2.2.2.2.1 bt724.2.2.2.2.2.2.2.2.1 bt724.2.2.2.2.2.2.2.2.2.1 bt724.2.2.2.2.2.2.2.2.2.2.1 bt724.2.2.2.2.2.2.2.2.2.2.2.1 bt724.2.2.2.2.2.2.2.2.2.2.2.2.1 bt741.1 bt741.2.1 bt741.2.2.1 bt741.2.2.2.1 bt741.2.2.2.2.1 bt741.2.2.2.2.2.1 bt741.2.2.2.2.2.2.1 bt741.2.2.2.2.2.2.2.1 bt741.2.2.2.2.2.2.2.2.1 bt741.2.2.2.2.2.2.2.2.2.1 bt741.2.2.2.2.2.2.2.2.2.2.1 bt741.2.2.2.2.2.2.2.2.2.2.2.1 bt741.2.2.2.2.2.2.2.2.2.2.2.2.1).bind fun t758 => (if t758 = true then (if (bt724.2.2.2.2.2.2.2.2.2.2.2.2.2 == bt741.2.2.2.2.2.2.2.2.2.2.2.2.2) = true then ((instance_May.f kj8 a0_0 a0_1 a0_2 a0_3 a0_4 a0_5 a0_6 a0_7 a0_8 a0_9 a0_10 a0_11 l0_12 a3).bind fun t759 => ((colloquyref09_May.f kj8 a0_0 a0_1 a0_2 a0_3 a0_4 a0_5 a0_6 a0_7 a0_8 a0_9 a0_10 a0_11 l0_12 a3).bind fun t760 => (if (t759 == t760) = true then ((instance_Same.f a0_0 a0_1 a0_2 a0_3 a0_4 a0_5 a0_6 a0_7 a0_8 a0_9 a0_10 a0_11 l0_12 a2_0 a2_1 a2_2 a2_3 a2_4 a2_5 a2_6 a2_7 a2_8 a2_9 a2_10 a2_11 l2_12).bind fun t761 => ((colloquyref09_Same.f kj8 a0_0 a0_1 a0_2 a0_3 a0_4 a0_5 a0_6 a0_7 a0_8 a0_9 a0_10 a0_11 l0_12 a2_0 a2_1 a2_2 a2_3 a2_4 a2_5 a2_6 a2_7 a2_8 a2_9 a2_10 a2_11 l2_12).bind fun t762 => (some (t761 == t762)))) else (some false)))) else (some false)) else (some false))))) = some r := by rw [if_neg (show ¬ (false = true) by decide)] at H; exact H
    clear H
    have H := H1
    clear H1
    replace H := Option.bind_eq_some_iff.mp H
    obtain ⟨⟨t724, t725, t726, t727, t728, t729, t730, t731, t732, t733, t734, t735, t736, t739⟩, A270, H⟩ := H
    replace H : ((colloquylaw09_did.f kj8 a0_0 a0_1 a0_2 a0_3 a0_4 a0_5 a0_6 a0_7 a0_8 a0_9 a0_10 a0_11 l0_12 a1_0 a1_1 a1_2 a1_3 a1_4 a1_5 a1_6 a1_7 a1_8 a1_9 l1_10).bind fun bt741 => ((colloquyref09_Same.f kj8 t724 t725 t726 t727 t728 t729 t730 t731 t732 t733 t734 t735 t736 bt741.1 bt741.2.1 bt741.2.2.1 bt741.2.2.2.1 bt741.2.2.2.2.1 bt741.2.2.2.2.2.1 bt741.2.2.2.2.2.2.1 bt741.2.2.2.2.2.2.2.1 bt741.2.2.2.2.2.2.2.2.1 bt741.2.2.2.2.2.2.2.2.2.1 bt741.2.2.2.2.2.2.2.2.2.2.1 bt741.2.2.2.2.2.2.2.2.2.2.2.1 bt741.2.2.2.2.2.2.2.2.2.2.2.2.1).bind fun t758 => (if t758 = true then (if (t739 == bt741.2.2.2.2.2.2.2.2.2.2.2.2.2) = true then ((instance_May.f kj8 a0_0 a0_1 a0_2 a0_3 a0_4 a0_5 a0_6 a0_7 a0_8 a0_9 a0_10 a0_11 l0_12 a3).bind fun t759 => ((colloquyref09_May.f kj8 a0_0 a0_1 a0_2 a0_3 a0_4 a0_5 a0_6 a0_7 a0_8 a0_9 a0_10 a0_11 l0_12 a3).bind fun t760 => (if (t759 == t760) = true then ((instance_Same.f a0_0 a0_1 a0_2 a0_3 a0_4 a0_5 a0_6 a0_7 a0_8 a0_9 a0_10 a0_11 l0_12 a2_0 a2_1 a2_2 a2_3 a2_4 a2_5 a2_6 a2_7 a2_8 a2_9 a2_10 a2_11 l2_12).bind fun t761 => ((colloquyref09_Same.f kj8 a0_0 a0_1 a0_2 a0_3 a0_4 a0_5 a0_6 a0_7 a0_8 a0_9 a0_10 a0_11 l0_12 a2_0 a2_1 a2_2 a2_3 a2_4 a2_5 a2_6 a2_7 a2_8 a2_9 a2_10 a2_11 l2_12).bind fun t762 => (some (t761 == t762)))) else (some false)))) else (some false)) else (some false)))) = some r := H
    have A27 := Aside0.mk A270
    clear A270
    replace H := Option.bind_eq_some_iff.mp H
    obtain ⟨⟨t741, t742, t743, t744, t745, t746, t747, t748, t749, t750, t751, t752, t753, t756⟩, A280, H⟩ := H
    replace H : ((colloquyref09_Same.f kj8 t724 t725 t726 t727 t728 t729 t730 t731 t732 t733 t734 t735 t736 t741 t742 t743 t744 t745 t746 t747 t748 t749 t750 t751 t752 t753).bind fun t758 => (if t758 = true then (if (t739 == t756) = true then ((instance_May.f kj8 a0_0 a0_1 a0_2 a0_3 a0_4 a0_5 a0_6 a0_7 a0_8 a0_9 a0_10 a0_11 l0_12 a3).bind fun t759 => ((colloquyref09_May.f kj8 a0_0 a0_1 a0_2 a0_3 a0_4 a0_5 a0_6 a0_7 a0_8 a0_9 a0_10 a0_11 l0_12 a3).bind fun t760 => (if (t759 == t760) = true then ((instance_Same.f a0_0 a0_1 a0_2 a0_3 a0_4 a0_5 a0_6 a0_7 a0_8 a0_9 a0_10 a0_11 l0_12 a2_0 a2_1 a2_2 a2_3 a2_4 a2_5 a2_6 a2_7 a2_8 a2_9 a2_10 a2_11 l2_12).bind fun t761 => ((colloquyref09_Same.f kj8 a0_0 a0_1 a0_2 a0_3 a0_4 a0_5 a0_6 a0_7 a0_8 a0_9 a0_10 a0_11 l0_12 a2_0 a2_1 a2_2 a2_3 a2_4 a2_5 a2_6 a2_7 a2_8 a2_9 a2_10 a2_11 l2_12).bind fun t762 => (some (t761 == t762)))) else (some false)))) else (some false)) else (some false))) = some r := H
    have A28 := Aside0.mk A280
    clear A280
    replace H := Option.bind_eq_some_iff.mp H
    obtain ⟨t758, A290, H⟩ := H
    replace H : (if t758 = true then (if (t739 == t756) = true then ((instance_May.f kj8 a0_0 a0_1 a0_2 a0_3 a0_4 a0_5 a0_6 a0_7 a0_8 a0_9 a0_10 a0_11 l0_12 a3).bind fun t759 => ((colloquyref09_May.f kj8 a0_0 a0_1 a0_2 a0_3 a0_4 a0_5 a0_6 a0_7 a0_8 a0_9 a0_10 a0_11 l0_12 a3).bind fun t760 => (if (t759 == t760) = true then ((instance_Same.f a0_0 a0_1 a0_2 a0_3 a0_4 a0_5 a0_6 a0_7 a0_8 a0_9 a0_10 a0_11 l0_12 a2_0 a2_1 a2_2 a2_3 a2_4 a2_5 a2_6 a2_7 a2_8 a2_9 a2_10 a2_11 l2_12).bind fun t761 => ((colloquyref09_Same.f kj8 a0_0 a0_1 a0_2 a0_3 a0_4 a0_5 a0_6 a0_7 a0_8 a0_9 a0_10 a0_11 l0_12 a2_0 a2_1 a2_2 a2_3 a2_4 a2_5 a2_6 a2_7 a2_8 a2_9 a2_10 a2_11 l2_12).bind fun t762 => (some (t761 == t762)))) else (some false)))) else (some false)) else (some false)) = some r := H
    have A29 := Aside0.mk A290
    clear A290
    by_cases c30 : t758 = true
    ·
     subst c30
     have H1 : (if (t739 == t756) = true then ((instance_May.f kj8 a0_0 a0_1 a0_2 a0_3 a0_4 a0_5 a0_6 a0_7 a0_8 a0_9 a0_10 a0_11 l0_12 a3).bind fun t759 => ((colloquyref09_May.f kj8 a0_0 a0_1 a0_2 a0_3 a0_4 a0_5 a0_6 a0_7 a0_8 a0_9 a0_10 a0_11 l0_12 a3).bind fun t760 => (if (t759 == t760) = true then ((instance_Same.f a0_0 a0_1 a0_2 a0_3 a0_4 a0_5 a0_6 a0_7 a0_8 a0_9 a0_10 a0_11 l0_12 a2_0 a2_1 a2_2 a2_3 a2_4 a2_5 a2_6 a2_7 a2_8 a2_9 a2_10 a2_11 l2_12).bind fun t761 => ((colloquyref09_Same.f kj8 a0_0 a0_1 a0_2 a0_3 a0_4 a0_5 a0_6 a0_7 a0_8 a0_9 a0_10 a0_11 l0_12 a2_0 a2_1 a2_2 a2_3 a2_4 a2_5 a2_6 a2_7 a2_8 a2_9 a2_10 a2_11 l2_12).bind fun t762 => (some (t761 == t762)))) else (some false)))) else (some false)) = some r := by rw [if_pos rfl] at H; exact H
     clear H
     have H := H1
     clear H1
     by_cases c31 : (t739 == t756) = true
     ·
      rw [if_pos c31] at H
      have c31b0 : (t739 == t756) = true := c31
      (try (have c31b1 : decide (t739 = t756) = true := by simpa using c31))
      (try (have c31b2 : (t739 == t756) = true := by simpa using c31))
      clear c31
      replace H := Option.bind_eq_some_iff.mp H
      obtain ⟨t759, A320, H⟩ := H
      replace H : ((colloquyref09_May.f kj8 a0_0 a0_1 a0_2 a0_3 a0_4 a0_5 a0_6 a0_7 a0_8 a0_9 a0_10 a0_11 l0_12 a3).bind fun t760 => (if (t759 == t760) = true then ((instance_Same.f a0_0 a0_1 a0_2 a0_3 a0_4 a0_5 a0_6 a0_7 a0_8 a0_9 a0_10 a0_11 l0_12 a2_0 a2_1 a2_2 a2_3 a2_4 a2_5 a2_6 a2_7 a2_8 a2_9 a2_10 a2_11 l2_12).bind fun t761 => ((colloquyref09_Same.f kj8 a0_0 a0_1 a0_2 a0_3 a0_4 a0_5 a0_6 a0_7 a0_8 a0_9 a0_10 a0_11 l0_12 a2_0 a2_1 a2_2 a2_3 a2_4 a2_5 a2_6 a2_7 a2_8 a2_9 a2_10 a2_11 l2_12).bind fun t762 => (some (t761 == t762)))) else (some false))) = some r := H
      have A32 := Aside0.mk A320
      clear A320
      replace H := Option.bind_eq_some_iff.mp H
      obtain ⟨t760, A330, H⟩ := H
      replace H : (if (t759 == t760) = true then ((instance_Same.f a0_0 a0_1 a0_2 a0_3 a0_4 a0_5 a0_6 a0_7 a0_8 a0_9 a0_10 a0_11 l0_12 a2_0 a2_1 a2_2 a2_3 a2_4 a2_5 a2_6 a2_7 a2_8 a2_9 a2_10 a2_11 l2_12).bind fun t761 => ((colloquyref09_Same.f kj8 a0_0 a0_1 a0_2 a0_3 a0_4 a0_5 a0_6 a0_7 a0_8 a0_9 a0_10 a0_11 l0_12 a2_0 a2_1 a2_2 a2_3 a2_4 a2_5 a2_6 a2_7 a2_8 a2_9 a2_10 a2_11 l2_12).bind fun t762 => (some (t761 == t762)))) else (some false)) = some r := H
      have A33 := Aside0.mk A330
      clear A330
      by_cases c34 : (t759 == t760) = true
      ·
       rw [if_pos c34] at H
       have c34b0 : (t759 == t760) = true := c34
       (try (have c34b1 : decide (t759 = t760) = true := by simpa using c34))
       (try (have c34b2 : (t759 == t760) = true := by simpa using c34))
       clear c34
       replace H := Option.bind_eq_some_iff.mp H
       obtain ⟨t761, A350, H⟩ := H
       replace H : ((colloquyref09_Same.f kj8 a0_0 a0_1 a0_2 a0_3 a0_4 a0_5 a0_6 a0_7 a0_8 a0_9 a0_10 a0_11 l0_12 a2_0 a2_1 a2_2 a2_3 a2_4 a2_5 a2_6 a2_7 a2_8 a2_9 a2_10 a2_11 l2_12).bind fun t762 => (some (t761 == t762))) = some r := H
       have A35 := Aside0.mk A350
       clear A350
       replace H := Option.bind_eq_some_iff.mp H
       obtain ⟨t762, A360, H⟩ := H
       replace H : (some (t761 == t762)) = some r := H
       have A36 := Aside0.mk A360
       clear A360
       obtain rfl := Option.some.inj H
       have hnb37 := NB717_718.out
       have hnc37 := NB718_717.out
       have hnb38 := NB717_719.out
       have hnc38 := NB719_717.out
       obtain ⟨hcz39_0, hcz39_1, hcz39_2, hcz39_3, hcz39_4, hcz39_5, hcz39_6, hcz39_7, hcz39_8, hcz39_9, hcz39_10, hcz39_11, hcz39_12⟩ := blk_cells13 BK717.out
       obtain ⟨hfz39_0, hfz39_1, hfz39_2, hfz39_3, hfz39_4, hfz39_5, hfz39_6, hfz39_7, hfz39_8, hfz39_9, hfz39_10, hfz39_11, hfz39_12⟩ := blk_frozens13 BK717.out
       have hnb40 := NB718_719.out
       have hnc40 := NB719_718.out
       obtain ⟨hcz41_0, hcz41_1, hcz41_2, hcz41_3, hcz41_4, hcz41_5, hcz41_6, hcz41_7, hcz41_8, hcz41_9, hcz41_10⟩ := blk_cells11 BK718.out
       obtain ⟨hfz41_0, hfz41_1, hfz41_2, hfz41_3, hfz41_4, hfz41_5, hfz41_6, hfz41_7, hfz41_8, hfz41_9, hfz41_10⟩ := blk_frozens11 BK718.out
       try go_wp2_with (first | ((with_reducible refine gate_callee (f := 10) rfl ?_); refine goesL_ (some 44) rfl rfl Try.func10 (by kernel_rfl) rfl #[.agg #[.int .i64 a0_0, .int .i64 a0_1, .int .i64 a0_2, .int .i64 a0_3, .int .i64 a0_4, .int .i64 a0_5, .int .i64 a0_6, .int .i64 a0_7, .int .i64 a0_8, .int .i64 a0_9, .string a0_10, .int .i64 a0_11, .slice A0_12 l0_12.length c0_12], .agg #[.int .i64 a1_0, .int .i64 a1_1, .int .i64 a1_2, .int .i64 a1_3, .int .i64 a1_4, .int .i64 a1_5, .int .i64 a1_6, .int .i64 a1_7, .string a1_8, .int .i64 a1_9, .slice A1_10 l1_10.length c1_10]] rfl (by (try simp only [List.map_toArray, List.map_cons, List.map_nil]); first | done | rfl | (simp only [List.length_drop, List.length_take]; rfl)) ?_; (with_reducible refine (colloquylaw09_does.calls kj8 a0_0 a0_1 a0_2 a0_3 a0_4 a0_5 a0_6 a0_7 a0_8 a0_9 a0_10 a0_11 _ _ l0_12 a1_0 a1_1 a1_2 a1_3 a1_4 a1_5 a1_6 a1_7 a1_8 a1_9 _ _ l1_10 t724 t725 t726 t727 t728 t729 t730 t731 t732 t733 t734 t735 t736 t739 _ ?side1 ?side2 ?side3 ?side4 A27.out).mono ?_); (case side1 => repeat (first | exact (Kd.C_below HR0_12.out HB.out) | (with_reducible refine Kd.C_alloc ?_ _) | (with_reducible refine Kd.C_drewN ?_ _) | (with_reducible refine Kd.C_drew ?_))); (case side2 => exact HC0_12.out); (case side3 => repeat (first | exact (Kd.C_below HR1_10.out HB.out) | (with_reducible refine Kd.C_alloc ?_ _) | (with_reducible refine Kd.C_drewN ?_ _) | (with_reducible refine Kd.C_drew ?_))); (case side4 => exact HC1_10.out); rintro e w42 ⟨v737, rfl, ho0, hb⟩; refine ⟨_, rfl, ?_⟩; have n0_ := Aside0.mk (Kd.R_lower ho0 (below_size (gw_ HB))); have n1_ := Aside0.mk (blk_below (g := gb717) (bk BK717) hb); have n2_ := Aside0.mk (blk_below (g := gb718) (bk BK718) hb); have n3_ := Aside0.mk (blk_below (g := gb719) (bk BK719) hb); have n4_ := Aside0.mk (below_step (gw_ HB) hb); clear BK717; clear BK718; clear BK719; clear HB; have HO738 := n0_; have BK717 := n1_; have BK718 := n2_; have BK719 := n3_; have HB := n4_; clear n0_ n1_ n2_ n3_ n4_; (try clear hb); (try clear hb2); (try clear hk); (try clear hi); (try clear ho0)) | ((with_reducible refine gate_dst (N := 13) rfl ?_); refine box_event ?hg (N := 13) ?hd (cs := #[.int .i64 0, .int .i64 0, .int .i64 0, .int .i64 0, .int .i64 0, .int .i64 0, .int .i64 0, .int .i64 0, .int .i64 0, .int .i64 0, .string (⟨#[]⟩ : ByteArray), .int .i64 0, .slice none 0 0]) (t := 32) ?hr ?_; (case hd => rfl); (case hg => rfl); (case hr => first | (go_simp; done) | (go_simp; rfl)); intro gb740 hg w43 hbox hb; have n0_ := Aside0.mk (Kd.R_below (Kd.rk HO738) hb); have n1_ := Aside0.mk (blk_below (g := gb717) (bk BK717) hb); have n2_ := Aside0.mk (blk_below (g := gb718) (bk BK718) hb); have n3_ := Aside0.mk (blk_below (g := gb719) (bk BK719) hb); have s_ := step_size_ (gw_ HB) hb hg; have n4_ := Aside0.mk s_.1; have n5_ := Aside0.mk (hbox); have n6_ := Aside0.mk s_.2; clear s_; have n7_ := n6_; have l_ := blk_lt_ (g := gb717) hg (bk BK717); have n8_ := Aside0.mk (Nat.ne_of_lt l_); have n9_ := Aside0.mk (Nat.ne_of_gt l_); clear l_; have l_ := blk_lt_ (g := gb718) hg (bk BK718); have n10_ := Aside0.mk (Nat.ne_of_lt l_); have n11_ := Aside0.mk (Nat.ne_of_gt l_); clear l_; have l_ := blk_lt_ (g := gb719) hg (bk BK719); have n12_ := Aside0.mk (Nat.ne_of_lt l_); have n13_ := Aside0.mk (Nat.ne_of_gt l_); clear l_; clear HO738; clear BK717; clear BK718; clear BK719; clear HB; have HO738 := n0_; have BK717 := n1_; have BK718 := n2_; have BK719 := n3_; have HB := n4_; have BK740 := n5_; have GW740 := n6_; have GE740 := n7_; have NB717_740 := n8_; have NB740_717 := n9_; have NB718_740 := n10_; have NB740_718 := n11_; have NB719_740 := n12_; have NB740_719 := n13_; clear n0_ n1_ n2_ n3_ n4_ n5_ n6_ n7_ n8_ n9_ n10_ n11_ n12_ n13_; clear hb hbox hg; have hnb44 := NB740_717.out; have hnc44 := NB717_740.out; have hnb45 := NB740_718.out; have hnc45 := NB718_740.out; have hnb46 := NB740_719.out; have hnc46 := NB719_740.out; obtain ⟨hcz47_0, hcz47_1, hcz47_2, hcz47_3, hcz47_4, hcz47_5, hcz47_6, hcz47_7, hcz47_8, hcz47_9, hcz47_10, hcz47_11, hcz47_12⟩ := blk_cells13 BK740.out; obtain ⟨hfz47_0, hfz47_1, hfz47_2, hfz47_3, hfz47_4, hfz47_5, hfz47_6, hfz47_7, hfz47_8, hfz47_9, hfz47_10, hfz47_11, hfz47_12⟩ := blk_frozens13 BK740.out; obtain ⟨Ao48, co48, eo48⟩ := Kd.R_slice HO738.out; subst eo48) | ((with_reducible refine gate_store (t := 32) (p := 13) rfl ?_); refine store_event (t := 32) (p := 13) (v := ?vo_w49) (w1 := (((((((((((((w43.setCell ⟨gb740, 0, none⟩ (.int .i64 t724)).setCell ⟨gb740, 1, none⟩ (.int .i64 t725)).setCell ⟨gb740, 2, none⟩ (.int .i64 t726)).setCell ⟨gb740, 3, none⟩ (.int .i64 t727)).setCell ⟨gb740, 4, none⟩ (.int .i64 t728)).setCell ⟨gb740, 5, none⟩ (.int .i64 t729)).setCell ⟨gb740, 6, none⟩ (.int .i64 t730)).setCell ⟨gb740, 7, none⟩ (.int .i64 t731)).setCell ⟨gb740, 8, none⟩ (.int .i64 t732)).setCell ⟨gb740, 9, none⟩ (.int .i64 t733)).setCell ⟨gb740, 10, none⟩ (.string t734)).setCell ⟨gb740, 11, none⟩ (.int .i64 t735)).setCell ⟨gb740, 12, none⟩ (.slice Ao48 t736.length co48))) ?hg ?ho ?hn ?hr ?_; (case ho => rfl); (case hg => rfl); (case hn => rfl); (case hr => first | (go_simp; done) | (go_simp; rfl)); intro w49 hw; have n0_ : Aside0 (Kd.R (Kd.int .i64) 3 w49 w.heap.size (fun _ => True) (.slice Ao48 t736.length co48) t736) := ⟨(by rw [hw]; exact (by (with_reducible repeat (first | apply Kd.R_alloc | apply Kd.R_drewN | apply Kd.R_drew)); exact Kd.R_mono (Kd.R_far13 (g := gb740) (Kd.R_types HO738.out BK740.out (by decide)) (fun _ hk => hk.2)) (fun _ hk => trivial)))⟩; have n1_ : Aside0 (w49.heap[gb717]? = some (.cells #[.int .i64 a0_0, .int .i64 a0_1, .int .i64 a0_2, .int .i64 a0_3, .int .i64 a0_4, .int .i64 a0_5, .int .i64 a0_6, .int .i64 a0_7, .int .i64 a0_8, .int .i64 a0_9, .string a0_10, .int .i64 a0_11, .slice A0_12 l0_12.length c0_12] 32 (0, 0))) := ⟨(by rw [hw]; exact (by (with_reducible repeat (first | refine blk_drewN ?_ _ | refine blk_drew ?_ | refine blk_alloc ?_ _)); (iterate 13 (refine blk_far ?_ NB717_740.out _)); (with_reducible repeat (first | refine blk_drewN ?_ _ | refine blk_drew ?_ | refine blk_alloc ?_ _)); exact BK717.out))⟩; have n2_ : Aside0 (w49.heap[gb718]? = some (.cells #[.int .i64 a1_0, .int .i64 a1_1, .int .i64 a1_2, .int .i64 a1_3, .int .i64 a1_4, .int .i64 a1_5, .int .i64 a1_6, .int .i64 a1_7, .string a1_8, .int .i64 a1_9, .slice A1_10 l1_10.length c1_10] 35 (0, 0))) := ⟨(by rw [hw]; exact (by (with_reducible repeat (first | refine blk_drewN ?_ _ | refine blk_drew ?_ | refine blk_alloc ?_ _)); (iterate 13 (refine blk_far ?_ NB718_740.out _)); (with_reducible repeat (first | refine blk_drewN ?_ _ | refine blk_drew ?_ | refine blk_alloc ?_ _)); exact BK718.out))⟩; have n3_ : Aside0 (w49.heap[gb719]? = some (.cells #[.int .i64 a2_0, .int .i64 a2_1, .int .i64 a2_2, .int .i64 a2_3, .int .i64 a2_4, .int .i64 a2_5, .int .i64 a2_6, .int .i64 a2_7, .int .i64 a2_8, .int .i64 a2_9, .string a2_10, .int .i64 a2_11, .slice A2_12 l2_12.length c2_12] 32 (0, 0))) := ⟨(by rw [hw]; exact (by (with_reducible repeat (first | refine blk_drewN ?_ _ | refine blk_drew ?_ | refine blk_alloc ?_ _)); (iterate 13 (refine blk_far ?_ NB719_740.out _)); (with_reducible repeat (first | refine blk_drewN ?_ _ | refine blk_drew ?_ | refine blk_alloc ?_ _)); exact BK719.out))⟩; have n4_ : Aside0 (w49.heap[gb740]? = some (.cells #[.int .i64 t724, .int .i64 t725, .int .i64 t726, .int .i64 t727, .int .i64 t728, .int .i64 t729, .int .i64 t730, .int .i64 t731, .int .i64 t732, .int .i64 t733, .string t734, .int .i64 t735, .slice Ao48 t736.length co48] 32 (0, 0))) := ⟨(by rw [hw]; exact (by (with_reducible repeat (first | refine blk_drewN ?_ _ | refine blk_drew ?_ | refine blk_alloc ?_ _)); refine blk_put13 (cs := #[.int .i64 0, .int .i64 0, .int .i64 0, .int .i64 0, .int .i64 0, .int .i64 0, .int .i64 0, .int .i64 0, .int .i64 0, .int .i64 0, .string (⟨#[]⟩ : ByteArray), .int .i64 0, .slice none 0 0]) ?_ rfl; (with_reducible repeat (first | refine blk_drewN ?_ _ | refine blk_drew ?_ | refine blk_alloc ?_ _)); exact BK740.out))⟩; have n5_ : Aside0 (Below w.heap.size w w49) := ⟨(by rw [hw]; exact (gw_ HB))⟩; clear hw; clear HO738; clear BK717; clear BK718; clear BK719; clear BK740; clear HB; have HO738 := n0_; have BK717 := n1_; have BK718 := n2_; have BK719 := n3_; have BK740 := n4_; have HB := n5_; clear n0_ n1_ n2_ n3_ n4_ n5_; obtain ⟨hcz50_0, hcz50_1, hcz50_2, hcz50_3, hcz50_4, hcz50_5, hcz50_6, hcz50_7, hcz50_8, hcz50_9, hcz50_10, hcz50_11, hcz50_12⟩ := blk_cells13 BK717.out; obtain ⟨hfz50_0, hfz50_1, hfz50_2, hfz50_3, hfz50_4, hfz50_5, hfz50_6, hfz50_7, hfz50_8, hfz50_9, hfz50_10, hfz50_11, hfz50_12⟩ := blk_frozens13 BK717.out; obtain ⟨hcz51_0, hcz51_1, hcz51_2, hcz51_3, hcz51_4, hcz51_5, hcz51_6, hcz51_7, hcz51_8, hcz51_9, hcz51_10⟩ := blk_cells11 BK718.out; obtain ⟨hfz51_0, hfz51_1, hfz51_2, hfz51_3, hfz51_4, hfz51_5, hfz51_6, hfz51_7, hfz51_8, hfz51_9, hfz51_10⟩ := blk_frozens11 BK718.out) | ((with_reducible refine gate_callee (f := 14) rfl ?_); refine goesL_ (some 50) rfl rfl Try.func14 (by kernel_rfl) rfl #[.agg #[.int .i64 a0_0, .int .i64 a0_1, .int .i64 a0_2, .int .i64 a0_3, .int .i64 a0_4, .int .i64 a0_5, .int .i64 a0_6, .int .i64 a0_7, .int .i64 a0_8, .int .i64 a0_9, .string a0_10, .int .i64 a0_11, .slice A0_12 l0_12.length c0_12], .agg #[.int .i64 a1_0, .int .i64 a1_1, .int .i64 a1_2, .int .i64 a1_3, .int .i64 a1_4, .int .i64 a1_5, .int .i64 a1_6, .int .i64 a1_7, .string a1_8, .int .i64 a1_9, .slice A1_10 l1_10.length c1_10]] rfl (by (try simp only [List.map_toArray, List.map_cons, List.map_nil]); first | done | rfl | (simp only [List.length_drop, List.length_take]; rfl)) ?_; (with_reducible refine (colloquylaw09_did.calls kj8 a0_0 a0_1 a0_2 a0_3 a0_4 a0_5 a0_6 a0_7 a0_8 a0_9 a0_10 a0_11 (fun k_ => k_ < w.heap.size) _ _ l0_12 a1_0 a1_1 a1_2 a1_3 a1_4 a1_5 a1_6 a1_7 a1_8 a1_9 (fun k_ => k_ < w.heap.size) _ _ l1_10 t741 t742 t743 t744 t745 t746 t747 t748 t749 t750 t751 t752 t753 t756 _ ?side1 ?side2 A28.out).mono ?_); (case side1 => exact Kd.V_mk HC0_12.out (Kd.F_below (Kd.C_F (Kd.heap_int .i64) HR0_12.out) (gw_ HB))); (case side2 => exact Kd.V_mk HC1_10.out (Kd.F_below (Kd.C_F (Kd.heap_int .i64) HR1_10.out) (gw_ HB))); rintro e w52 ⟨v754, rfl, ho0, hb⟩; refine ⟨_, rfl, ?_⟩; have n0_ := Aside0.mk (Kd.R_below (Kd.rk HO738) hb); have n1_ := Aside0.mk (Kd.V_lower (Kd.V_mono (ok' := fun k_ => some k_ ≠ (.slice Ao48 t736.length co48 : Value).ownBlock ∧ k_ ≠ gb717 ∧ k_ ≠ gb718 ∧ k_ ≠ gb719 ∧ k_ ≠ gb740) ho0 (fun k_ hk_ => ⟨Or.elim hk_ (fun hs_ => Or.elim hs_ (fun hs_ => fun e_ => Nat.not_le.2 hs_ (Kd.R_base HO738.out k_ e_.symm)) (fun hs_ => fun e_ => Nat.not_le.2 hs_ (Kd.R_base HO738.out k_ e_.symm))) (fun hn_ => (Kd.fresh' (Kd.R_lt (Kd.rk HO738)) k_ hn_)), Or.elim hk_ (fun hs_ => Or.elim hs_ (fun hs_ => fun e_ => Nat.not_le.2 hs_ (by rw [e_]; exact GW717.out)) (fun hs_ => fun e_ => Nat.not_le.2 hs_ (by rw [e_]; exact GW717.out))) (fun hn_ => (Kd.freshB (g := gb717) (bk BK717) k_ hn_)), Or.elim hk_ (fun hs_ => Or.elim hs_ (fun hs_ => fun e_ => Nat.not_le.2 hs_ (by rw [e_]; exact GW718.out)) (fun hs_ => fun e_ => Nat.not_le.2 hs_ (by rw [e_]; exact GW718.out))) (fun hn_ => (Kd.freshB (g := gb718) (bk BK718) k_ hn_)), Or.elim hk_ (fun hs_ => Or.elim hs_ (fun hs_ => fun e_ => Nat.not_le.2 hs_ (by rw [e_]; exact GW719.out)) (fun hs_ => fun e_ => Nat.not_le.2 hs_ (by rw [e_]; exact GW719.out))) (fun hn_ => (Kd.freshB (g := gb719) (bk BK719) k_ hn_)), Or.elim hk_ (fun hs_ => Or.elim hs_ (fun hs_ => fun e_ => Nat.not_le.2 hs_ (by rw [e_]; exact GW740.out)) (fun hs_ => fun e_ => Nat.not_le.2 hs_ (by rw [e_]; exact GW740.out))) (fun hn_ => (Kd.freshB (g := gb740) (bk BK740) k_ hn_))⟩)) (below_size (gw_ HB))); have n2_ := Aside0.mk (blk_below (g := gb717) (bk BK717) hb); have n3_ := Aside0.mk (blk_below (g := gb718) (bk BK718) hb); have n4_ := Aside0.mk (blk_below (g := gb719) (bk BK719) hb); have n5_ := Aside0.mk (blk_below (g := gb740) (bk BK740) hb); have n6_ := Aside0.mk (below_step (gw_ HB) hb); clear HO738; clear BK717; clear BK718; clear BK719; clear BK740; clear HB; have HO738 := n0_; have HO755 := n1_; have BK717 := n2_; have BK718 := n3_; have BK719 := n4_; have BK740 := n5_; have HB := n6_; clear n0_ n1_ n2_ n3_ n4_ n5_ n6_; (try clear hb); (try clear hb2); (try clear hk); (try clear hi); (try clear ho0)) | ((with_reducible refine gate_dst (N := 15) rfl ?_); refine box_event ?hg (N := 15) ?hd (cs := #[.int .i64 0, .int .i64 0, .int .i64 0, .int .i64 0, .int .i64 0, .int .i64 0, .int .i64 0, .int .i64 0, .int .i64 0, .int .i64 0, .string (⟨#[]⟩ : ByteArray), .int .i64 0, .slice none 0 0]) (t := 32) ?hr ?_; (case hd => rfl); (case hg => rfl); (case hr => first | (go_simp; done) | (go_simp; rfl)); intro gb757 hg w53 hbox hb; have n0_ := Aside0.mk (Kd.R_below (Kd.rk HO738) hb); have n1_ := Aside0.mk (Kd.V_below (Kd.V_elderB (Kd.vk HO755) gb757 (Nat.le_of_eq hg.symm)) hb); have n2_ := Aside0.mk (blk_below (g := gb717) (bk BK717) hb); have n3_ := Aside0.mk (blk_below (g := gb718) (bk BK718) hb); have n4_ := Aside0.mk (blk_below (g := gb719) (bk BK719) hb); have n5_ := Aside0.mk (blk_below (g := gb740) (bk BK740) hb); have s_ := step_size_ (gw_ HB) hb hg; have n6_ := Aside0.mk s_.1; have n7_ := Aside0.mk (hbox); have n8_ := Aside0.mk s_.2; clear s_; have n9_ := n8_; have l_ := blk_lt_ (g := gb717) hg (bk BK717); have n10_ := Aside0.mk (Nat.ne_of_lt l_); have n11_ := Aside0.mk (Nat.ne_of_gt l_); clear l_; have l_ := blk_lt_ (g := gb718) hg (bk BK718); have n12_ := Aside0.mk (Nat.ne_of_lt l_); have n13_ := Aside0.mk (Nat.ne_of_gt l_); clear l_; have l_ := blk_lt_ (g := gb719) hg (bk BK719); have n14_ := Aside0.mk (Nat.ne_of_lt l_); have n15_ := Aside0.mk (Nat.ne_of_gt l_); clear l_; have l_ := blk_lt_ (g := gb740) hg (bk BK740); have n16_ := Aside0.mk (Nat.ne_of_lt l_); have n17_ := Aside0.mk (Nat.ne_of_gt l_); clear l_; clear HO738; clear HO755; clear BK717; clear BK718; clear BK719; clear BK740; clear HB; have HO738 := n0_; have HO755 := n1_; have BK717 := n2_; have BK718 := n3_; have BK719 := n4_; have BK740 := n5_; have HB := n6_; have BK757 := n7_; have GW757 := n8_; have GE757 := n9_; have NB717_757 := n10_; have NB757_717 := n11_; have NB718_757 := n12_; have NB757_718 := n13_; have NB719_757 := n14_; have NB757_719 := n15_; have NB740_757 := n16_; have NB757_740 := n17_; clear n0_ n1_ n2_ n3_ n4_ n5_ n6_ n7_ n8_ n9_ n10_ n11_ n12_ n13_ n14_ n15_ n16_ n17_; clear hb hbox hg; have hnb54 := NB757_717.out; have hnc54 := NB717_757.out; have hnb55 := NB757_718.out; have hnc55 := NB718_757.out; have hnb56 := NB757_719.out; have hnc56 := NB719_757.out; have hnb57 := NB757_740.out; have hnc57 := NB740_757.out; obtain ⟨hcz58_0, hcz58_1, hcz58_2, hcz58_3, hcz58_4, hcz58_5, hcz58_6, hcz58_7, hcz58_8, hcz58_9, hcz58_10, hcz58_11, hcz58_12⟩ := blk_cells13 BK757.out; obtain ⟨hfz58_0, hfz58_1, hfz58_2, hfz58_3, hfz58_4, hfz58_5, hfz58_6, hfz58_7, hfz58_8, hfz58_9, hfz58_10, hfz58_11, hfz58_12⟩ := blk_frozens13 BK757.out; obtain ⟨Ao59, co59, eo59⟩ := Kd.V_slice HO755.out; subst eo59; obtain ⟨hcz60_0, hcz60_1, hcz60_2, hcz60_3, hcz60_4, hcz60_5, hcz60_6, hcz60_7, hcz60_8, hcz60_9, hcz60_10, hcz60_11, hcz60_12⟩ := blk_cells13 BK740.out; obtain ⟨hfz60_0, hfz60_1, hfz60_2, hfz60_3, hfz60_4, hfz60_5, hfz60_6, hfz60_7, hfz60_8, hfz60_9, hfz60_10, hfz60_11, hfz60_12⟩ := blk_frozens13 BK740.out) | ((with_reducible refine gate_callee (f := 15) rfl ?_); refine goesL_ (some 55) rfl rfl Try.func15 (by kernel_rfl) rfl #[.agg #[.int .i64 t724, .int .i64 t725, .int .i64 t726, .int .i64 t727, .int .i64 t728, .int .i64 t729, .int .i64 t730, .int .i64 t731, .int .i64 t732, .int .i64 t733, .string t734, .int .i64 t735, .slice Ao48 t736.length co48], .agg #[.int .i64 t741, .int .i64 t742, .int .i64 t743, .int .i64 t744, .int .i64 t745, .int .i64 t746, .int .i64 t747, .int .i64 t748, .int .i64 t749, .int .i64 t750, .string t751, .int .i64 t752, .slice Ao59 t753.length co59]] rfl (by (try simp only [List.map_toArray, List.map_cons, List.map_nil]); first | done | rfl | (simp only [List.length_drop, List.length_take]; rfl)) ?_; (with_reducible refine (colloquyref09_Same.calls kj8 t724 t725 t726 t727 t728 t729 t730 t731 t732 t733 t734 t735 _ _ t736 t741 t742 t743 t744 t745 t746 t747 t748 t749 t750 t751 t752 _ _ t753 true _ ?side1 ?side2 ?side3 ?side4 A29.out).mono ?_); (case side1 => refine (Kd.R_reads' (e := 3) (base := w.heap.size) (ok := fun k_ => True) (n := t736.length) (c := co48) ?_).2.2; exact (by (with_reducible repeat (first | apply Kd.R_alloc | apply Kd.R_drewN | apply Kd.R_drew)); exact (Kd.R_mono (Kd.R_far13 (g := gb757) (Kd.R_types HO738.out BK757.out (by decide)) (fun _ hk => hk.2)) (fun _ h_ => h_.1)))); (case side2 => exact (Kd.R_reads' HO738.out).2.1); (case side3 => refine (Kd.V_reads' (e := 3) (base := w.heap.size) (ok := fun k_ => ((some k_ ≠ (.slice Ao48 t736.length co48 : Value).ownBlock ∧ (k_ ≠ gb717 ∧ (k_ ≠ gb718 ∧ (k_ ≠ gb719 ∧ k_ ≠ gb740)))) ∧ k_ ≠ gb757)) (n := t753.length) (c := co59) ?_).2.2; exact (by (with_reducible repeat (first | apply Kd.V_alloc | apply Kd.V_drewN | apply Kd.V_drew)); exact (Kd.V_mono (Kd.V_far (p := ⟨gb757, 12, none⟩) (Kd.V_far (p := ⟨gb757, 11, none⟩) (Kd.V_far (p := ⟨gb757, 10, none⟩) (Kd.V_far (p := ⟨gb757, 9, none⟩) (Kd.V_far (p := ⟨gb757, 8, none⟩) (Kd.V_far (p := ⟨gb757, 7, none⟩) (Kd.V_far (p := ⟨gb757, 6, none⟩) (Kd.V_far (p := ⟨gb757, 5, none⟩) (Kd.V_far (p := ⟨gb757, 4, none⟩) (Kd.V_far (p := ⟨gb757, 3, none⟩) (Kd.V_far (p := ⟨gb757, 2, none⟩) (Kd.V_far (p := ⟨gb757, 1, none⟩) (Kd.V_far (p := ⟨gb757, 0, none⟩) (Kd.V_mono HO755.out (fun k_ hk => (⟨hk, hk.2⟩ : _ ∧ k_ ≠ gb757))) (fun _ hk => hk.2) (.int .i64 t741)) (fun _ hk => hk.2) (.int .i64 t742)) (fun _ hk => hk.2) (.int .i64 t743)) (fun _ hk => hk.2) (.int .i64 t744)) (fun _ hk => hk.2) (.int .i64 t745)) (fun _ hk => hk.2) (.int .i64 t746)) (fun _ hk => hk.2) (.int .i64 t747)) (fun _ hk => hk.2) (.int .i64 t748)) (fun _ hk => hk.2) (.int .i64 t749)) (fun _ hk => hk.2) (.int .i64 t750)) (fun _ hk => hk.2) (.string t751)) (fun _ hk => hk.2) (.int .i64 t752)) (fun _ hk => hk.2) (.slice Ao59 t753.length co59)) (fun _ h_ => h_.1)))); (case side4 => exact (Kd.V_reads' HO755.out).2.1); rintro e w61 ⟨rfl, hb⟩; refine ⟨_, rfl, ?_⟩; have n0_ := Aside0.mk (Kd.R_below (by (with_reducible repeat (first | apply Kd.R_alloc | apply Kd.R_drewN | apply Kd.R_drew)); exact (Kd.R_mono (Kd.R_far13 (g := gb757) (Kd.R_types HO738.out BK757.out (by decide)) (fun _ hk => hk.2)) (fun _ h_ => h_.1))) hb); have n1_ := Aside0.mk (Kd.V_below (by (with_reducible repeat (first | apply Kd.V_alloc | apply Kd.V_drewN | apply Kd.V_drew)); exact (Kd.V_mono (Kd.V_far (p := ⟨gb757, 12, none⟩) (Kd.V_far (p := ⟨gb757, 11, none⟩) (Kd.V_far (p := ⟨gb757, 10, none⟩) (Kd.V_far (p := ⟨gb757, 9, none⟩) (Kd.V_far (p := ⟨gb757, 8, none⟩) (Kd.V_far (p := ⟨gb757, 7, none⟩) (Kd.V_far (p := ⟨gb757, 6, none⟩) (Kd.V_far (p := ⟨gb757, 5, none⟩) (Kd.V_far (p := ⟨gb757, 4, none⟩) (Kd.V_far (p := ⟨gb757, 3, none⟩) (Kd.V_far (p := ⟨gb757, 2, none⟩) (Kd.V_far (p := ⟨gb757, 1, none⟩) (Kd.V_far (p := ⟨gb757, 0, none⟩) (Kd.V_mono HO755.out (fun k_ hk => (⟨hk, hk.2⟩ : _ ∧ k_ ≠ gb757))) (fun _ hk => hk.2) (.int .i64 t741)) (fun _ hk => hk.2) (.int .i64 t742)) (fun _ hk => hk.2) (.int .i64 t743)) (fun _ hk => hk.2) (.int .i64 t744)) (fun _ hk => hk.2) (.int .i64 t745)) (fun _ hk => hk.2) (.int .i64 t746)) (fun _ hk => hk.2) (.int .i64 t747)) (fun _ hk => hk.2) (.int .i64 t748)) (fun _ hk => hk.2) (.int .i64 t749)) (fun _ hk => hk.2) (.int .i64 t750)) (fun _ hk => hk.2) (.string t751)) (fun _ hk => hk.2) (.int .i64 t752)) (fun _ hk => hk.2) (.slice Ao59 t753.length co59)) (fun _ h_ => h_.1))) hb); have n2_ := Aside0.mk (blk_below (g := gb717) (o := .cells #[.int .i64 a0_0, .int .i64 a0_1, .int .i64 a0_2, .int .i64 a0_3, .int .i64 a0_4, .int .i64 a0_5, .int .i64 a0_6, .int .i64 a0_7, .int .i64 a0_8, .int .i64 a0_9, .string a0_10, .int .i64 a0_11, .slice A0_12 l0_12.length c0_12] 32 (0, 0)) (by (with_reducible repeat (first | refine blk_drewN ?_ _ | refine blk_drew ?_ | refine blk_alloc ?_ _)); (iterate 13 (refine blk_far ?_ NB717_757.out _)); (with_reducible repeat (first | refine blk_drewN ?_ _ | refine blk_drew ?_ | refine blk_alloc ?_ _)); exact BK717.out) hb); have n3_ := Aside0.mk (blk_below (g := gb718) (o := .cells #[.int .i64 a1_0, .int .i64 a1_1, .int .i64 a1_2, .int .i64 a1_3, .int .i64 a1_4, .int .i64 a1_5, .int .i64 a1_6, .int .i64 a1_7, .string a1_8, .int .i64 a1_9, .slice A1_10 l1_10.length c1_10] 35 (0, 0)) (by (with_reducible repeat (first | refine blk_drewN ?_ _ | refine blk_drew ?_ | refine blk_alloc ?_ _)); (iterate 13 (refine blk_far ?_ NB718_757.out _)); (with_reducible repeat (first | refine blk_drewN ?_ _ | refine blk_drew ?_ | refine blk_alloc ?_ _)); exact BK718.out) hb); have n4_ := Aside0.mk (blk_below (g := gb719) (o := .cells #[.int .i64 a2_0, .int .i64 a2_1, .int .i64 a2_2, .int .i64 a2_3, .int .i64 a2_4, .int .i64 a2_5, .int .i64 a2_6, .int .i64 a2_7, .int .i64 a2_8, .int .i64 a2_9, .string a2_10, .int .i64 a2_11, .slice A2_12 l2_12.length c2_12] 32 (0, 0)) (by (with_reducible repeat (first | refine blk_drewN ?_ _ | refine blk_drew ?_ | refine blk_alloc ?_ _)); (iterate 13 (refine blk_far ?_ NB719_757.out _)); (with_reducible repeat (first | refine blk_drewN ?_ _ | refine blk_drew ?_ | refine blk_alloc ?_ _)); exact BK719.out) hb); have n5_ := Aside0.mk (blk_below (g := gb740) (o := .cells #[.int .i64 t724, .int .i64 t725, .int .i64 t726, .int .i64 t727, .int .i64 t728, .int .i64 t729, .int .i64 t730, .int .i64 t731, .int .i64 t732, .int .i64 t733, .string t734, .int .i64 t735, .slice Ao48 t736.length co48] 32 (0, 0)) (by (with_reducible repeat (first | refine blk_drewN ?_ _ | refine blk_drew ?_ | refine blk_alloc ?_ _)); (iterate 13 (refine blk_far ?_ NB740_757.out _)); (with_reducible repeat (first | refine blk_drewN ?_ _ | refine blk_drew ?_ | refine blk_alloc ?_ _)); exact BK740.out) hb); have n6_ := Aside0.mk (blk_below (g := gb757) (o := .cells #[.int .i64 t741, .int .i64 t742, .int .i64 t743, .int .i64 t744, .int .i64 t745, .int .i64 t746, .int .i64 t747, .int .i64 t748, .int .i64 t749, .int .i64 t750, .string t751, .int .i64 t752, .slice Ao59 t753.length co59] 32 (0, 0)) (by (with_reducible repeat (first | refine blk_drewN ?_ _ | refine blk_drew ?_ | refine blk_alloc ?_ _)); refine blk_put13 (cs := #[.int .i64 0, .int .i64 0, .int .i64 0, .int .i64 0, .int .i64 0, .int .i64 0, .int .i64 0, .int .i64 0, .int .i64 0, .int .i64 0, .string (⟨#[]⟩ : ByteArray), .int .i64 0, .slice none 0 0]) ?_ rfl; (with_reducible repeat (first | refine blk_drewN ?_ _ | refine blk_drew ?_ | refine blk_alloc ?_ _)); exact BK757.out) hb); have n7_ := Aside0.mk (below_step (gw_ HB) hb); clear HO738; clear HO755; clear BK717; clear BK718; clear BK719; clear BK740; clear BK757; clear HB; have HO738 := n0_; have HO755 := n1_; have BK717 := n2_; have BK718 := n3_; have BK719 := n4_; have BK740 := n5_; have BK757 := n6_; have HB := n7_; clear n0_ n1_ n2_ n3_ n4_ n5_ n6_ n7_; (try clear hb); (try clear hb2); (try clear hk); (try clear hi)))
       have n0_ := Aside0.mk (Kd.R_drew HO738.out)
       have n1_ := Aside0.mk (Kd.V_drew HO755.out)
       have n2_ := Aside0.mk (blk_drew BK717.out)
       have n3_ := Aside0.mk (blk_drew BK718.out)
       have n4_ := Aside0.mk (blk_drew BK719.out)
       have n5_ := Aside0.mk (blk_drew BK740.out)
       have n6_ := Aside0.mk (blk_drew BK757.out)
       have n7_ := Aside0.mk (below_drew1 HB.out)
       clear HO738
       clear HO755
       clear BK717
       clear BK718
       clear BK719
       clear BK740
       clear BK757
       clear HB
       have HO738 := n0_
       have HO755 := n1_
       have BK717 := n2_
       have BK718 := n3_
       have BK719 := n4_
       have BK740 := n5_
       have BK757 := n6_
       have HB := n7_
       clear n0_ n1_ n2_ n3_ n4_ n5_ n6_ n7_
       refine start_ (n := 25) (S := fun w' => w'.cell? ⟨gb717, 0, none⟩ = some (.int .i64 a0_0) ∧ w'.cell? ⟨gb717, 1, none⟩ = some (.int .i64 a0_1) ∧ w'.cell? ⟨gb717, 2, none⟩ = some (.int .i64 a0_2) ∧ w'.cell? ⟨gb717, 3, none⟩ = some (.int .i64 a0_3) ∧ w'.cell? ⟨gb717, 4, none⟩ = some (.int .i64 a0_4) ∧ w'.cell? ⟨gb717, 5, none⟩ = some (.int .i64 a0_5) ∧ w'.cell? ⟨gb717, 6, none⟩ = some (.int .i64 a0_6) ∧ w'.cell? ⟨gb717, 7, none⟩ = some (.int .i64 a0_7) ∧ w'.cell? ⟨gb717, 8, none⟩ = some (.int .i64 a0_8) ∧ w'.cell? ⟨gb717, 9, none⟩ = some (.int .i64 a0_9) ∧ w'.cell? ⟨gb717, 10, none⟩ = some (.string a0_10) ∧ w'.cell? ⟨gb717, 11, none⟩ = some (.int .i64 a0_11) ∧ w'.cell? ⟨gb717, 12, none⟩ = some (.slice A0_12 l0_12.length c0_12) ∧ w'.cell? ⟨gb719, 0, none⟩ = some (.int .i64 a2_0) ∧ w'.cell? ⟨gb719, 1, none⟩ = some (.int .i64 a2_1) ∧ w'.cell? ⟨gb719, 2, none⟩ = some (.int .i64 a2_2) ∧ w'.cell? ⟨gb719, 3, none⟩ = some (.int .i64 a2_3) ∧ w'.cell? ⟨gb719, 4, none⟩ = some (.int .i64 a2_4) ∧ w'.cell? ⟨gb719, 5, none⟩ = some (.int .i64 a2_5) ∧ w'.cell? ⟨gb719, 6, none⟩ = some (.int .i64 a2_6) ∧ w'.cell? ⟨gb719, 7, none⟩ = some (.int .i64 a2_7) ∧ w'.cell? ⟨gb719, 8, none⟩ = some (.int .i64 a2_8) ∧ w'.cell? ⟨gb719, 9, none⟩ = some (.int .i64 a2_9) ∧ w'.cell? ⟨gb719, 10, none⟩ = some (.string a2_10) ∧ w'.cell? ⟨gb719, 11, none⟩ = some (.int .i64 a2_11) ∧ w'.cell? ⟨gb719, 12, none⟩ = some (.slice A2_12 l2_12.length c2_12)) (ds := []) q6_0 (by kernel_rfl) rfl rfl ⟨(blk_cell BK717.out 0).trans rfl, (blk_cell BK717.out 1).trans rfl, (blk_cell BK717.out 2).trans rfl, (blk_cell BK717.out 3).trans rfl, (blk_cell BK717.out 4).trans rfl, (blk_cell BK717.out 5).trans rfl, (blk_cell BK717.out 6).trans rfl, (blk_cell BK717.out 7).trans rfl, (blk_cell BK717.out 8).trans rfl, (blk_cell BK717.out 9).trans rfl, (blk_cell BK717.out 10).trans rfl, (blk_cell BK717.out 11).trans rfl, (blk_cell BK717.out 12).trans rfl, (blk_cell BK719.out 0).trans rfl, (blk_cell BK719.out 1).trans rfl, (blk_cell BK719.out 2).trans rfl, (blk_cell BK719.out 3).trans rfl, (blk_cell BK719.out 4).trans rfl, (blk_cell BK719.out 5).trans rfl, (blk_cell BK719.out 6).trans rfl, (blk_cell BK719.out 7).trans rfl, (blk_cell BK719.out 8).trans rfl, (blk_cell BK719.out 9).trans rfl, (blk_cell BK719.out 10).trans rfl, (blk_cell BK719.out 11).trans rfl, (blk_cell BK719.out 12).trans rfl⟩ (fun hHeld => ?_); refine with_tabW colloquylaw09_InstanceSteps.tab10 colloquylaw09_InstanceSteps.bits10 (fun HT_ HW_ => ?_)
       generalize w61.drew = w62 at HO738 HO755 BK717 BK718 BK719 BK740 BK757 HB hHeld ⊢
       refine pure_ (i := 0) (N := some 56) (v := ?_) (a' := ?_) q6_1 rfl rfl (any_of HT_.out (by kernel_rfl)) (fun _ _ _ h => h) (Or.inl ⟨by rfl, ?_⟩) ?_ ?_
       rotate_left
       ·
        intro w'
        go_simp
        with_reducible rfl
       rotate_left
       ·
        simp only [Act.put, List.setIfInBounds_toArray, List.set_cons_zero, List.set_cons_succ, i64_w, i32_w]
        rfl
       refine pure_ (i := 1) (N := some 57) (v := ?_) (a' := ?_) q6_2 rfl rfl (any_of HT_.out (by kernel_rfl)) (fun _ _ _ h => h) (Or.inl ⟨by rfl, ?_⟩) ?_ ?_
       rotate_left
       ·
        intro w'
        go_simp
        with_reducible rfl
       rotate_left
       ·
        simp only [Act.put, List.setIfInBounds_toArray, List.set_cons_zero, List.set_cons_succ, i64_w, i32_w]
        rfl
       refine pure_ (i := 2) (N := some 58) (v := ?_) (a' := ?_) q6_3 rfl rfl (any_of HT_.out (by kernel_rfl)) (fun _ _ _ h => h) (Or.inl ⟨by rfl, ?_⟩) ?_ ?_
       rotate_left
       ·
        intro w'
        go_simp
        with_reducible rfl
       rotate_left
       ·
        simp only [Act.put, List.setIfInBounds_toArray, List.set_cons_zero, List.set_cons_succ, i64_w, i32_w]
        rfl
       refine pure_ (i := 3) (N := some 59) (v := ?_) (a' := ?_) q6_4 rfl rfl (any_of HT_.out (by kernel_rfl)) (fun _ _ _ h => h) (Or.inl ⟨by rfl, ?_⟩) ?_ ?_
       rotate_left
       ·
        intro w'
        go_simp
        with_reducible rfl
       rotate_left
       ·
        simp only [Act.put, List.setIfInBounds_toArray, List.set_cons_zero, List.set_cons_succ, i64_w, i32_w]
        rfl
       refine pure_ (i := 4) (N := some 60) (v := ?_) (a' := ?_) q6_5 rfl rfl (any_of HT_.out (by kernel_rfl)) (fun _ _ _ h => h) (Or.inl ⟨by rfl, ?_⟩) ?_ ?_
       rotate_left
       ·
        intro w'
        go_simp
        with_reducible rfl
       rotate_left
       ·
        simp only [Act.put, List.setIfInBounds_toArray, List.set_cons_zero, List.set_cons_succ, i64_w, i32_w]
        rfl
       refine pure_ (i := 5) (N := some 61) (v := ?_) (a' := ?_) q6_6 rfl rfl (any_of HT_.out (by kernel_rfl)) (fun _ _ _ h => h) (Or.inl ⟨by rfl, ?_⟩) ?_ ?_
       rotate_left
       ·
        intro w'
        go_simp
        with_reducible rfl
       rotate_left
       ·
        simp only [Act.put, List.setIfInBounds_toArray, List.set_cons_zero, List.set_cons_succ, i64_w, i32_w]
        rfl
       refine pure_ (i := 6) (N := some 62) (v := ?_) (a' := ?_) q6_7 rfl rfl (any_of HT_.out (by kernel_rfl)) (fun _ _ _ h => h) (Or.inl ⟨by rfl, ?_⟩) ?_ ?_
       rotate_left
       ·
        intro w'
        go_simp
        with_reducible rfl
       rotate_left
       ·
        simp only [Act.put, List.setIfInBounds_toArray, List.set_cons_zero, List.set_cons_succ, i64_w, i32_w]
        rfl
       refine pure_ (i := 8) (N := some 64) (v := ?_) (a' := ?_) q6_8 rfl rfl (any_of HT_.out (by kernel_rfl)) (fun _ _ _ h => h) (Or.inl ⟨by rfl, ?_⟩) ?_ ?_
       rotate_left
       ·
        intro w'
        go_simp
        with_reducible rfl
       rotate_left
       ·
        simp only [Act.put, List.setIfInBounds_toArray, List.set_cons_zero, List.set_cons_succ, i64_w, i32_w]
        rfl
       refine pure_ (i := 11) (N := some 67) (v := ?_) (a' := ?_) q6_9 rfl rfl (any_of HT_.out (by kernel_rfl)) (fun _ _ _ h => h) (Or.inl ⟨by rfl, ?_⟩) ?_ ?_
       rotate_left
       ·
        intro w'
        go_simp
        with_reducible rfl
       rotate_left
       ·
        simp only [Act.put, List.setIfInBounds_toArray, List.set_cons_zero, List.set_cons_succ, i64_w, i32_w]
        rfl
       refine take_ (i := 7) (N := some 63) (v := ?_) (a' := ?_) q6_10 rfl rfl (take_ofW HT_.out HW_.out (by kernel_rfl)) (fun _ _ _ h => h) (Or.inl ⟨by rfl, ?_⟩) hHeld ?_ ?_
       rotate_left
       ·
        rintro w' ⟨s0, s1, s2, s3, s4, s5, s6, s7, s8, s9, s10, s11, s12, s13, s14, s15, s16, s17, s18, s19, s20, s21, s22, s23, s24, s25⟩
        go_simp
        with_reducible rfl
       rotate_left
       ·
        simp only [Act.put, List.setIfInBounds_toArray, List.set_cons_zero, List.set_cons_succ, i64_w, i32_w]
        rfl
       refine take_ (i := 10) (N := some 66) (v := ?_) (a' := ?_) q6_11 rfl rfl (take_ofW HT_.out HW_.out (by kernel_rfl)) (fun _ _ _ h => h) (Or.inl ⟨by rfl, ?_⟩) hHeld ?_ ?_
       rotate_left
       ·
        rintro w' ⟨s0, s1, s2, s3, s4, s5, s6, s7, s8, s9, s10, s11, s12, s13, s14, s15, s16, s17, s18, s19, s20, s21, s22, s23, s24, s25⟩
        go_simp
        with_reducible rfl
       rotate_left
       ·
        simp only [Act.put, List.setIfInBounds_toArray, List.set_cons_zero, List.set_cons_succ, i64_w, i32_w]
        rfl
       refine one_ (i := 9) (N := some 65) q6_12 rfl rfl (one_of HT_.out (by kernel_rfl)) (by decide) (fun K hK => ?_)
       refine goes_ Try.func16 (by kernel_rfl) rfl #[.agg #[.int .i64 a0_0, .int .i64 a0_1, .int .i64 a0_2, .int .i64 a0_3, .int .i64 a0_4, .int .i64 a0_5, .int .i64 a0_6, .int .i64 a0_7, .int .i64 a0_8, .int .i64 a0_9, .string a0_10, .int .i64 a0_11, .slice A0_12 l0_12.length c0_12], .int .i64 a3] (by rfl) rfl rfl (by (try simp only [List.map_toArray, List.map_cons, List.map_nil]); first | done | rfl | (simp only [List.length_drop, List.length_take]; rfl)) ?_
       with_reducible refine (instance_May.calls kj8 a0_0 a0_1 a0_2 a0_3 a0_4 a0_5 a0_6 a0_7 a0_8 a0_9 a0_10 a0_11 _ _ l0_12 a3 t759 _ ?side1 ?side2 A32.out).mono ?_
       (case side1 => repeat (first | exact (Kd.C_below HR0_12.out HB.out) | (with_reducible refine Kd.C_alloc ?_ _) | (with_reducible refine Kd.C_drewN ?_ _) | (with_reducible refine Kd.C_drew ?_)))
       (case side2 => exact HC0_12.out)
       rintro e w63 ⟨rfl, hb⟩
       refine ⟨_, rfl, ?_⟩
       have n0_ := Aside0.mk (Kd.R_below (Kd.rk HO738) hb)
       have n1_ := Aside0.mk (Kd.V_below (Kd.vk HO755) hb)
       have n2_ := Aside0.mk (blk_below (g := gb717) (bk BK717) hb)
       have n3_ := Aside0.mk (blk_below (g := gb718) (bk BK718) hb)
       have n4_ := Aside0.mk (blk_below (g := gb719) (bk BK719) hb)
       have n5_ := Aside0.mk (blk_below (g := gb740) (bk BK740) hb)
       have n6_ := Aside0.mk (blk_below (g := gb757) (bk BK757) hb)
       have n7_ := Aside0.mk (below_step (gw_ HB) hb)
       clear HO738
       clear HO755
       clear BK717
       clear BK718
       clear BK719
       clear BK740
       clear BK757
       clear HB
       have HO738 := n0_
       have HO755 := n1_
       have BK717 := n2_
       have BK718 := n3_
       have BK719 := n4_
       have BK740 := n5_
       have BK757 := n6_
       have HB := n7_
       clear n0_ n1_ n2_ n3_ n4_ n5_ n6_ n7_
       (try clear hb)
       (try clear hb2)
       (try clear hk)
       (try clear hi)
       refine hK.out _ _ ⟨(blk_cell BK717.out 0).trans rfl, (blk_cell BK717.out 1).trans rfl, (blk_cell BK717.out 2).trans rfl, (blk_cell BK717.out 3).trans rfl, (blk_cell BK717.out 4).trans rfl, (blk_cell BK717.out 5).trans rfl, (blk_cell BK717.out 6).trans rfl, (blk_cell BK717.out 7).trans rfl, (blk_cell BK717.out 8).trans rfl, (blk_cell BK717.out 9).trans rfl, (blk_cell BK717.out 10).trans rfl, (blk_cell BK717.out 11).trans rfl, (blk_cell BK717.out 12).trans rfl, (blk_cell BK719.out 0).trans rfl, (blk_cell BK719.out 1).trans rfl, (blk_cell BK719.out 2).trans rfl, (blk_cell BK719.out 3).trans rfl, (blk_cell BK719.out 4).trans rfl, (blk_cell BK719.out 5).trans rfl, (blk_cell BK719.out 6).trans rfl, (blk_cell BK719.out 7).trans rfl, (blk_cell BK719.out 8).trans rfl, (blk_cell BK719.out 9).trans rfl, (blk_cell BK719.out 10).trans rfl, (blk_cell BK719.out 11).trans rfl, (blk_cell BK719.out 12).trans rfl⟩ (fun hHeld => ?_)
       clear hK K
       refine norm_ (a' := ?_) ?_ ?_
       rotate_left
       ·
        show Act.put _ (some 65) _ = _
        simp only [Act.put, List.setIfInBounds_toArray, List.set_cons_zero, List.set_cons_succ, i64_w, i32_w]
        rfl
       refine one_ (i := 12) (N := some 68) q6_13 rfl rfl (one_of HT_.out (by kernel_rfl)) (by decide) (fun K hK => ?_)
       refine goes_ Try.func17 (by kernel_rfl) rfl #[.agg #[.int .i64 a0_0, .int .i64 a0_1, .int .i64 a0_2, .int .i64 a0_3, .int .i64 a0_4, .int .i64 a0_5, .int .i64 a0_6, .int .i64 a0_7, .int .i64 a0_8, .int .i64 a0_9, .string a0_10, .int .i64 a0_11, .slice A0_12 l0_12.length c0_12], .int .i64 a3] (by rfl) rfl rfl (by (try simp only [List.map_toArray, List.map_cons, List.map_nil]); first | done | rfl | (simp only [List.length_drop, List.length_take]; rfl)) ?_
       with_reducible refine (colloquyref09_May.calls kj8 a0_0 a0_1 a0_2 a0_3 a0_4 a0_5 a0_6 a0_7 a0_8 a0_9 a0_10 a0_11 _ _ l0_12 a3 t760 _ ?side1 ?side2 A33.out).mono ?_
       (case side1 => repeat (first | exact (Kd.C_below HR0_12.out HB.out) | (with_reducible refine Kd.C_alloc ?_ _) | (with_reducible refine Kd.C_drewN ?_ _) | (with_reducible refine Kd.C_drew ?_)))
       (case side2 => exact HC0_12.out)
       rintro e w64 ⟨rfl, hb⟩
       refine ⟨_, rfl, ?_⟩
       have n0_ := Aside0.mk (Kd.R_below (Kd.rk HO738) hb)
       have n1_ := Aside0.mk (Kd.V_below (Kd.vk HO755) hb)
       have n2_ := Aside0.mk (blk_below (g := gb717) (bk BK717) hb)
       have n3_ := Aside0.mk (blk_below (g := gb718) (bk BK718) hb)
       have n4_ := Aside0.mk (blk_below (g := gb719) (bk BK719) hb)
       have n5_ := Aside0.mk (blk_below (g := gb740) (bk BK740) hb)
       have n6_ := Aside0.mk (blk_below (g := gb757) (bk BK757) hb)
       have n7_ := Aside0.mk (below_step (gw_ HB) hb)
       clear HO738
       clear HO755
       clear BK717
       clear BK718
       clear BK719
       clear BK740
       clear BK757
       clear HB
       have HO738 := n0_
       have HO755 := n1_
       have BK717 := n2_
       have BK718 := n3_
       have BK719 := n4_
       have BK740 := n5_
       have BK757 := n6_
       have HB := n7_
       clear n0_ n1_ n2_ n3_ n4_ n5_ n6_ n7_
       (try clear hb)
       (try clear hb2)
       (try clear hk)
       (try clear hi)
       refine hK.out _ _ ⟨(blk_cell BK717.out 0).trans rfl, (blk_cell BK717.out 1).trans rfl, (blk_cell BK717.out 2).trans rfl, (blk_cell BK717.out 3).trans rfl, (blk_cell BK717.out 4).trans rfl, (blk_cell BK717.out 5).trans rfl, (blk_cell BK717.out 6).trans rfl, (blk_cell BK717.out 7).trans rfl, (blk_cell BK717.out 8).trans rfl, (blk_cell BK717.out 9).trans rfl, (blk_cell BK717.out 10).trans rfl, (blk_cell BK717.out 11).trans rfl, (blk_cell BK717.out 12).trans rfl, (blk_cell BK719.out 0).trans rfl, (blk_cell BK719.out 1).trans rfl, (blk_cell BK719.out 2).trans rfl, (blk_cell BK719.out 3).trans rfl, (blk_cell BK719.out 4).trans rfl, (blk_cell BK719.out 5).trans rfl, (blk_cell BK719.out 6).trans rfl, (blk_cell BK719.out 7).trans rfl, (blk_cell BK719.out 8).trans rfl, (blk_cell BK719.out 9).trans rfl, (blk_cell BK719.out 10).trans rfl, (blk_cell BK719.out 11).trans rfl, (blk_cell BK719.out 12).trans rfl⟩ (fun hHeld => ?_)
       clear hK K
       refine norm_ (a' := ?_) ?_ ?_
       rotate_left
       ·
        show Act.put _ (some 68) _ = _
        simp only [Act.put, List.setIfInBounds_toArray, List.set_cons_zero, List.set_cons_succ, i64_w, i32_w]
        rfl
       refine pure_ (i := 13) (N := some 69) (v := ?_) (a' := ?_) q6_14 rfl rfl (any_of HT_.out (by kernel_rfl)) (fun _ _ _ h => h) (Or.inl ⟨by rfl, ?_⟩) ?_ ?_
       rotate_left
       ·
        intro w'
        go_simp
        with_reducible rfl
       rotate_left
       ·
        simp only [Act.put, List.setIfInBounds_toArray, List.set_cons_zero, List.set_cons_succ, i64_w, i32_w]
        rfl
       refine pure_ (i := 14) (N := some 70) (v := ?_) (a' := ?_) q6_15 rfl rfl (any_of HT_.out (by kernel_rfl)) (fun _ _ _ h => h) (Or.inl ⟨by rfl, ?_⟩) ?_ ?_
       rotate_left
       ·
        intro w'
        go_simp
        with_reducible rfl
       rotate_left
       ·
        simp only [Act.put, List.setIfInBounds_toArray, List.set_cons_zero, List.set_cons_succ, i64_w, i32_w]
        rfl
       refine pure_ (i := 15) (N := some 71) (v := ?_) (a' := ?_) q6_16 rfl rfl (any_of HT_.out (by kernel_rfl)) (fun _ _ _ h => h) (Or.inl ⟨by rfl, ?_⟩) ?_ ?_
       rotate_left
       ·
        intro w'
        go_simp
        with_reducible rfl
       rotate_left
       ·
        simp only [Act.put, List.setIfInBounds_toArray, List.set_cons_zero, List.set_cons_succ, i64_w, i32_w]
        rfl
       refine take_ (i := 16) (N := some 72) (v := ?_) (a' := ?_) q6_17 rfl rfl (take_ofW HT_.out HW_.out (by kernel_rfl)) (fun _ _ _ h => h) (Or.inl ⟨by rfl, ?_⟩) hHeld ?_ ?_
       rotate_left
       ·
        rintro w' ⟨s0, s1, s2, s3, s4, s5, s6, s7, s8, s9, s10, s11, s12, s13, s14, s15, s16, s17, s18, s19, s20, s21, s22, s23, s24, s25⟩
        go_simp
        with_reducible rfl
       rotate_left
       ·
        simp only [Act.put, List.setIfInBounds_toArray, List.set_cons_zero, List.set_cons_succ, i64_w, i32_w]
        rfl
       refine take_ (i := 17) (N := some 73) (v := ?_) (a' := ?_) q6_18 rfl rfl (take_ofW HT_.out HW_.out (by kernel_rfl)) (fun _ _ _ h => h) (Or.inl ⟨by rfl, ?_⟩) hHeld ?_ ?_
       rotate_left
       ·
        rintro w' ⟨s0, s1, s2, s3, s4, s5, s6, s7, s8, s9, s10, s11, s12, s13, s14, s15, s16, s17, s18, s19, s20, s21, s22, s23, s24, s25⟩
        go_simp
        with_reducible rfl
       rotate_left
       ·
        simp only [Act.put, List.setIfInBounds_toArray, List.set_cons_zero, List.set_cons_succ, i64_w, i32_w]
        rfl
       refine take_ (i := 19) (N := some 75) (v := ?_) (a' := ?_) q6_19 rfl rfl (take_ofW HT_.out HW_.out (by kernel_rfl)) (fun _ _ _ h => h) (Or.inl ⟨by rfl, ?_⟩) hHeld ?_ ?_
       rotate_left
       ·
        rintro w' ⟨s0, s1, s2, s3, s4, s5, s6, s7, s8, s9, s10, s11, s12, s13, s14, s15, s16, s17, s18, s19, s20, s21, s22, s23, s24, s25⟩
        go_simp
        with_reducible rfl
       rotate_left
       ·
        simp only [Act.put, List.setIfInBounds_toArray, List.set_cons_zero, List.set_cons_succ, i64_w, i32_w]
        rfl
       refine take_ (i := 20) (N := some 76) (v := ?_) (a' := ?_) q6_20 rfl rfl (take_ofW HT_.out HW_.out (by kernel_rfl)) (fun _ _ _ h => h) (Or.inl ⟨by rfl, ?_⟩) hHeld ?_ ?_
       rotate_left
       ·
        rintro w' ⟨s0, s1, s2, s3, s4, s5, s6, s7, s8, s9, s10, s11, s12, s13, s14, s15, s16, s17, s18, s19, s20, s21, s22, s23, s24, s25⟩
        go_simp
        with_reducible rfl
       rotate_left
       ·
        simp only [Act.put, List.setIfInBounds_toArray, List.set_cons_zero, List.set_cons_succ, i64_w, i32_w]
        rfl
       refine one_ (i := 18) (N := some 74) q6_21 rfl rfl (one_of HT_.out (by kernel_rfl)) (by decide) (fun K hK => ?_)
       refine goes_ Try.func12 (by kernel_rfl) rfl #[.agg #[.int .i64 a0_0, .int .i64 a0_1, .int .i64 a0_2, .int .i64 a0_3, .int .i64 a0_4, .int .i64 a0_5, .int .i64 a0_6, .int .i64 a0_7, .int .i64 a0_8, .int .i64 a0_9, .string a0_10, .int .i64 a0_11, .slice A0_12 l0_12.length c0_12], .agg #[.int .i64 a2_0, .int .i64 a2_1, .int .i64 a2_2, .int .i64 a2_3, .int .i64 a2_4, .int .i64 a2_5, .int .i64 a2_6, .int .i64 a2_7, .int .i64 a2_8, .int .i64 a2_9, .string a2_10, .int .i64 a2_11, .slice A2_12 l2_12.length c2_12]] (by rfl) rfl rfl (by (try simp only [List.map_toArray, List.map_cons, List.map_nil]); first | done | rfl | (simp only [List.length_drop, List.length_take]; rfl)) ?_
       with_reducible refine (instance_Same.calls a0_0 a0_1 a0_2 a0_3 a0_4 a0_5 a0_6 a0_7 a0_8 a0_9 a0_10 a0_11 _ _ l0_12 a2_0 a2_1 a2_2 a2_3 a2_4 a2_5 a2_6 a2_7 a2_8 a2_9 a2_10 a2_11 _ _ l2_12 t761 _ ?side1 ?side2 ?side3 ?side4 A35.out).mono ?_
       (case side1 => repeat (first | exact (Kd.C_below HR0_12.out HB.out) | (with_reducible refine Kd.C_alloc ?_ _) | (with_reducible refine Kd.C_drewN ?_ _) | (with_reducible refine Kd.C_drew ?_)))
       (case side2 => exact HC0_12.out)
       (case side3 => repeat (first | exact (Kd.C_below HR2_12.out HB.out) | (with_reducible refine Kd.C_alloc ?_ _) | (with_reducible refine Kd.C_drewN ?_ _) | (with_reducible refine Kd.C_drew ?_)))
       (case side4 => exact HC2_12.out)
       rintro e w65 ⟨rfl, hb⟩
       refine ⟨_, rfl, ?_⟩
       have n0_ := Aside0.mk (Kd.R_below (Kd.rk HO738) hb)
       have n1_ := Aside0.mk (Kd.V_below (Kd.vk HO755) hb)
       have n2_ := Aside0.mk (blk_below (g := gb717) (bk BK717) hb)
       have n3_ := Aside0.mk (blk_below (g := gb718) (bk BK718) hb)
       have n4_ := Aside0.mk (blk_below (g := gb719) (bk BK719) hb)
       have n5_ := Aside0.mk (blk_below (g := gb740) (bk BK740) hb)
       have n6_ := Aside0.mk (blk_below (g := gb757) (bk BK757) hb)
       have n7_ := Aside0.mk (below_step (gw_ HB) hb)
       clear HO738
       clear HO755
       clear BK717
       clear BK718
       clear BK719
       clear BK740
       clear BK757
       clear HB
       have HO738 := n0_
       have HO755 := n1_
       have BK717 := n2_
       have BK718 := n3_
       have BK719 := n4_
       have BK740 := n5_
       have BK757 := n6_
       have HB := n7_
       clear n0_ n1_ n2_ n3_ n4_ n5_ n6_ n7_
       (try clear hb)
       (try clear hb2)
       (try clear hk)
       (try clear hi)
       refine hK.out _ _ ⟨(blk_cell BK717.out 0).trans rfl, (blk_cell BK717.out 1).trans rfl, (blk_cell BK717.out 2).trans rfl, (blk_cell BK717.out 3).trans rfl, (blk_cell BK717.out 4).trans rfl, (blk_cell BK717.out 5).trans rfl, (blk_cell BK717.out 6).trans rfl, (blk_cell BK717.out 7).trans rfl, (blk_cell BK717.out 8).trans rfl, (blk_cell BK717.out 9).trans rfl, (blk_cell BK717.out 10).trans rfl, (blk_cell BK717.out 11).trans rfl, (blk_cell BK717.out 12).trans rfl, (blk_cell BK719.out 0).trans rfl, (blk_cell BK719.out 1).trans rfl, (blk_cell BK719.out 2).trans rfl, (blk_cell BK719.out 3).trans rfl, (blk_cell BK719.out 4).trans rfl, (blk_cell BK719.out 5).trans rfl, (blk_cell BK719.out 6).trans rfl, (blk_cell BK719.out 7).trans rfl, (blk_cell BK719.out 8).trans rfl, (blk_cell BK719.out 9).trans rfl, (blk_cell BK719.out 10).trans rfl, (blk_cell BK719.out 11).trans rfl, (blk_cell BK719.out 12).trans rfl⟩ (fun hHeld => ?_)
       clear hK K
       refine norm_ (a' := ?_) ?_ ?_
       rotate_left
       ·
        show Act.put _ (some 74) _ = _
        simp only [Act.put, List.setIfInBounds_toArray, List.set_cons_zero, List.set_cons_succ, i64_w, i32_w]
        rfl
       refine one_ (i := 21) (N := some 77) q6_22 rfl rfl (one_of HT_.out (by kernel_rfl)) (by decide) (fun K hK => ?_)
       refine goes_ Try.func15 (by kernel_rfl) rfl #[.agg #[.int .i64 a0_0, .int .i64 a0_1, .int .i64 a0_2, .int .i64 a0_3, .int .i64 a0_4, .int .i64 a0_5, .int .i64 a0_6, .int .i64 a0_7, .int .i64 a0_8, .int .i64 a0_9, .string a0_10, .int .i64 a0_11, .slice A0_12 l0_12.length c0_12], .agg #[.int .i64 a2_0, .int .i64 a2_1, .int .i64 a2_2, .int .i64 a2_3, .int .i64 a2_4, .int .i64 a2_5, .int .i64 a2_6, .int .i64 a2_7, .int .i64 a2_8, .int .i64 a2_9, .string a2_10, .int .i64 a2_11, .slice A2_12 l2_12.length c2_12]] (by rfl) rfl rfl (by (try simp only [List.map_toArray, List.map_cons, List.map_nil]); first | done | rfl | (simp only [List.length_drop, List.length_take]; rfl)) ?_
       with_reducible refine (colloquyref09_Same.calls kj8 a0_0 a0_1 a0_2 a0_3 a0_4 a0_5 a0_6 a0_7 a0_8 a0_9 a0_10 a0_11 _ _ l0_12 a2_0 a2_1 a2_2 a2_3 a2_4 a2_5 a2_6 a2_7 a2_8 a2_9 a2_10 a2_11 _ _ l2_12 t762 _ ?side1 ?side2 ?side3 ?side4 A36.out).mono ?_
       (case side1 => repeat (first | exact (Kd.C_below HR0_12.out HB.out) | (with_reducible refine Kd.C_alloc ?_ _) | (with_reducible refine Kd.C_drewN ?_ _) | (with_reducible refine Kd.C_drew ?_)))
       (case side2 => exact HC0_12.out)
       (case side3 => repeat (first | exact (Kd.C_below HR2_12.out HB.out) | (with_reducible refine Kd.C_alloc ?_ _) | (with_reducible refine Kd.C_drewN ?_ _) | (with_reducible refine Kd.C_drew ?_)))
       (case side4 => exact HC2_12.out)
       rintro e w66 ⟨rfl, hb⟩
       refine ⟨_, rfl, ?_⟩
       have n0_ := Aside0.mk (Kd.R_below (Kd.rk HO738) hb)
       have n1_ := Aside0.mk (Kd.V_below (Kd.vk HO755) hb)
       have n2_ := Aside0.mk (blk_below (g := gb717) (bk BK717) hb)
       have n3_ := Aside0.mk (blk_below (g := gb718) (bk BK718) hb)
       have n4_ := Aside0.mk (blk_below (g := gb719) (bk BK719) hb)
       have n5_ := Aside0.mk (blk_below (g := gb740) (bk BK740) hb)
       have n6_ := Aside0.mk (blk_below (g := gb757) (bk BK757) hb)
       have n7_ := Aside0.mk (below_step (gw_ HB) hb)
       clear HO738
       clear HO755
       clear BK717
       clear BK718
       clear BK719
       clear BK740
       clear BK757
       clear HB
       have HO738 := n0_
       have HO755 := n1_
       have BK717 := n2_
       have BK718 := n3_
       have BK719 := n4_
       have BK740 := n5_
       have BK757 := n6_
       have HB := n7_
       clear n0_ n1_ n2_ n3_ n4_ n5_ n6_ n7_
       (try clear hb)
       (try clear hb2)
       (try clear hk)
       (try clear hi)
       refine hK.out _ _ ⟨(blk_cell BK717.out 0).trans rfl, (blk_cell BK717.out 1).trans rfl, (blk_cell BK717.out 2).trans rfl, (blk_cell BK717.out 3).trans rfl, (blk_cell BK717.out 4).trans rfl, (blk_cell BK717.out 5).trans rfl, (blk_cell BK717.out 6).trans rfl, (blk_cell BK717.out 7).trans rfl, (blk_cell BK717.out 8).trans rfl, (blk_cell BK717.out 9).trans rfl, (blk_cell BK717.out 10).trans rfl, (blk_cell BK717.out 11).trans rfl, (blk_cell BK717.out 12).trans rfl, (blk_cell BK719.out 0).trans rfl, (blk_cell BK719.out 1).trans rfl, (blk_cell BK719.out 2).trans rfl, (blk_cell BK719.out 3).trans rfl, (blk_cell BK719.out 4).trans rfl, (blk_cell BK719.out 5).trans rfl, (blk_cell BK719.out 6).trans rfl, (blk_cell BK719.out 7).trans rfl, (blk_cell BK719.out 8).trans rfl, (blk_cell BK719.out 9).trans rfl, (blk_cell BK719.out 10).trans rfl, (blk_cell BK719.out 11).trans rfl, (blk_cell BK719.out 12).trans rfl⟩ (fun hHeld => ?_)
       clear hK K
       refine norm_ (a' := ?_) ?_ ?_
       rotate_left
       ·
        show Act.put _ (some 77) _ = _
        simp only [Act.put, List.setIfInBounds_toArray, List.set_cons_zero, List.set_cons_succ, i64_w, i32_w]
        rfl
       refine pure_ (i := 22) (N := some 78) (v := ?_) (a' := ?_) q6_23 rfl rfl (any_of HT_.out (by kernel_rfl)) (fun _ _ _ h => h) (Or.inl ⟨by rfl, ?_⟩) ?_ ?_
       rotate_left
       ·
        intro w'
        go_simp
        with_reducible rfl
       rotate_left
       ·
        simp only [Act.put, List.setIfInBounds_toArray, List.set_cons_zero, List.set_cons_succ, i64_w, i32_w]
        rfl
       refine pure_ (i := 23) (N := some 79) (v := ?_) (a' := ?_) q6_24 rfl rfl (any_of HT_.out (by kernel_rfl)) (fun _ _ _ h => h) (Or.inl ⟨by rfl, ?_⟩) ?_ ?_
       rotate_left
       ·
        intro w'
        go_simp
        with_reducible rfl
       rotate_left
       ·
        simp only [Act.put, List.setIfInBounds_toArray, List.set_cons_zero, List.set_cons_succ, i64_w, i32_w]
        rfl
       refine pure_ (i := 24) (N := some 8) (v := ?_) (a' := ?_) q6_25 rfl rfl (any_of HT_.out (by kernel_rfl)) (fun _ _ _ h => h) (Or.inl ⟨by rfl, ?_⟩) ?_ ?_
       rotate_left
       ·
        intro w'
        go_simp
        with_reducible rfl
       rotate_left
       ·
        simp only [Act.put, List.setIfInBounds_toArray, List.set_cons_zero, List.set_cons_succ, i64_w, i32_w]
        rfl
       refine done_ (done_of HT_.out (by kernel_rfl)) ?_
       try go_wp2
       go_ret
       exact ⟨by first | rfl | (simp [errW_none, errW_some] <;> rfl) | (simp [*, errW_none, errW_some] <;> rfl), gw_ HB⟩
      ·
       rw [if_neg c34] at H
       have c34b0 : (t759 == t760) = false := by simpa using c34
       (try (have c34b1 : decide (t759 = t760) = false := by simpa using c34))
       (try (have c34b2 : (t759 == t760) = false := by simpa using c34))
       (try (have c34b3 : ¬ (t759 = t760) := by simpa using c34))
       clear c34
       exact absurd (Option.some.inj H) (by rw [HRT.out]; decide)
     ·
      rw [if_neg c31] at H
      have c31b0 : (t739 == t756) = false := by simpa using c31
      (try (have c31b1 : decide (t739 = t756) = false := by simpa using c31))
      (try (have c31b2 : (t739 == t756) = false := by simpa using c31))
      (try (have c31b3 : ¬ (t739 = t756) := by simpa using c31))
      clear c31
      exact absurd (Option.some.inj H) (by rw [HRT.out]; decide)
    ·
     replace c30 := Bool.eq_false_iff.mpr c30
     subst c30
     have H1 : (some false) = some r := by rw [if_neg (show ¬ (false = true) by decide)] at H; exact H
     clear H
     have H := H1
     clear H1
     exact absurd (Option.some.inj H) (by rw [HRT.out]; decide)

end Go.Proofs.Ytkijkdifmoifaaa.P
