/- The law IndexGrows: its plain function and contract, written by a program of this session; no condition but each contract's own. -/
import Derived.Test.YtgenfbpaooeofaaPx0
import Derived.Test.YtgenfbpaooeofaaPx4
import Derived.Test.YtgenfbpaooeofaaPx5
import Derived.Test.YtgenfbpaooeofaaPx6
import Derived.Test.YtgenfbpaooeofaaPx10
namespace Go.Proofs.Ytgenfbpaooeofaa.P
open Go.RowKit Go.Proofs.YtgenfbpaooeofaaW.PrintWords Go.Proofs.YtgenfbpaooeofaaW.PrintLast Go.Proofs.YtgenfbpaooeofaaW.PrintMore
attribute [local go_sem] max2_int min2_int max_two min_two max_three min_three max_four min_four   -- for this text's walks alone
set_option linter.unusedVariables false
set_option linter.unusedSimpArgs false

abbrev q8_0 : Array Bool := #[false, false, false, false, false, false, false, false, false, false, false]
abbrev q8_1 : Array Bool := #[true, false, false, false, false, false, false, false, false, false, false]
abbrev q8_2 : Array Bool := #[true, false, false, false, false, false, false, true, false, false, false]
abbrev q8_3 : Array Bool := #[true, false, true, false, false, false, false, true, false, false, false]
abbrev q8_4 : Array Bool := #[true, false, true, false, false, true, false, true, false, false, false]
abbrev q8_5 : Array Bool := #[true, false, true, false, false, true, true, true, false, false, false]
abbrev q8_6 : Array Bool := #[true, false, true, false, false, true, true, true, false, true, false]
abbrev q8_7 : Array Bool := #[true, false, true, true, false, true, true, true, false, false, false]
abbrev q8_8 : Array Bool := #[true, true, true, false, false, true, true, true, false, false, false]
abbrev q8_9 : Array Bool := #[true, false, true, true, false, true, true, true, false, true, false]
abbrev q8_10 : Array Bool := #[true, true, true, false, false, true, true, true, false, true, false]
abbrev q8_11 : Array Bool := #[true, true, true, true, false, true, true, true, false, false, false]
abbrev q8_12 : Array Bool := #[true, true, true, true, false, true, true, true, false, true, false]
abbrev q8_13 : Array Bool := #[true, true, true, true, true, true, true, true, false, false, false]
abbrev q8_14 : Array Bool := #[true, true, true, true, true, true, true, true, false, true, false]
abbrev q8_15 : Array Bool := #[true, true, true, true, true, true, true, true, true, false, false]
abbrev q8_16 : Array Bool := #[true, true, true, true, true, true, true, true, true, true, false]
abbrev q8_17 : Array Bool := #[true, true, true, true, true, true, true, true, true, true, true]
mutual
def colloquylaw08_IndexGrows.j0 : Nat → List (S29) → Int → Bool → Bool → Int → Int → Int → Int → Int → Int → Int → ByteArray → Int → Int → Int → Int → Int → Int → ByteArray → Int → Int → Option (Bool)
 | 0, _, _, _, _, _, _, _, _, _, _, _, _, _, _, _, _, _, _, _, _, _ => none
 | k + 1, x0, x4, x11, x27, x220000, x220001, x220002, x220003, x220004, x220005, x220006, x220007, x220008, x221000, x221001, x221002, x221003, x221004, x221005, x222000, x222001 => if x27 = true then (some x11) else (colloquylaw08_IndexGrows.l0 k x0 x4 0 x220000 x220001 x220002 x220003 x220004 x220005 x220006 x220007 x220008 x221000 x221001 x221002 x221003 x221004 x221005 x222000 x222001)
def colloquylaw08_IndexGrows.l0 : Nat → List (S29) → Int → Int → Int → Int → Int → Int → Int → Int → Int → ByteArray → Int → Int → Int → Int → Int → Int → ByteArray → Int → Int → Option (Bool)
 | 0, _, _, _, _, _, _, _, _, _, _, _, _, _, _, _, _, _, _, _, _ => none
 | k + 1, x0, x4, x12, x220000, x220001, x220002, x220003, x220004, x220005, x220006, x220007, x220008, x221000, x221001, x221002, x221003, x221004, x221005, x222000, x222001 => if x12 < (x0.length : Int) then (if 0 ≤ x12 then (if ((rd_T29 x0 x12).f2) > 1099511627776 then (some true) else (colloquylaw08_IndexGrows.l0 k x0 x4 (wrap64 (x12 + 1)) x220000 x220001 x220002 x220003 x220004 x220005 x220006 x220007 x220008 x221000 x221001 x221002 x221003 x221004 x221005 x222000 x222001)) else (none)) else ((index_Of.f x0 x221000 x221001 x221002 x221003 x221004 x221005 x222000 x222001 x4).bind fun bt224 => (if ([] : List (S29)).length + x0.length < 1759218604441 then ((some (([] : List (S29)) ++ x0 : List (S29))).bind fun y229 => ((some (([(⟨(⟨x220000, x220001⟩ : S26), (⟨x220002, x220003, x220004, x220005, x220006, x220007⟩ : S24), x220008⟩ : S29)] : List (S29)) : List (S29))).bind fun y232 => (if y229.length + y232.length < 1759218604441 then ((index_Of.f (y229 ++ y232) x221000 x221001 x221002 x221003 x221004 x221005 x222000 x222001 x4).bind fun bt238 => ((attr_Within.f bt224.1 bt224.2 bt238.1 bt238.2).bind fun t243 => (if t243 = true then ((keys_Interfere.f x220002 x220003 x220004 x220005 x220006 x220007 x221000 x221001 x221002 x221003 x221004 x221005).bind fun t244 => (if t244 = true then (some true) else ((attr_Same.f bt224.1 bt224.2 bt238.1 bt238.2).bind fun t245 => (some t245)))) else (some false)))) else (none)))) else (none)))
end
def colloquylaw08_IndexGrows.f (k : Nat) (l0 : List (S29)) (a1_0 : Int) (a1_1 : Int) (a1_2 : Int) (a1_3 : Int) (a1_4 : Int) (a1_5 : Int) (a1_6 : Int) (a1_7 : ByteArray) (a1_8 : Int) (a2_0 : Int) (a2_1 : Int) (a2_2 : Int) (a2_3 : Int) (a2_4 : Int) (a2_5 : ByteArray) (a3_0 : Int) (a3_1 : Int) (a4 : Int) : Option (Bool) := (colloquylaw08_awake.f).bind fun t222 => (if t222 = true then (if (l0.length : Int) > 60 then (colloquylaw08_IndexGrows.j0 k l0 a4 t222 true a1_0 a1_1 a1_2 a1_3 a1_4 a1_5 a1_6 a1_7 a1_8 a2_0 a2_1 a2_2 a2_3 a2_4 a2_5 a3_0 a3_1) else (colloquylaw08_IndexGrows.j0 k l0 a4 t222 (decide (a1_8 > 1099511627776)) a1_0 a1_1 a1_2 a1_3 a1_4 a1_5 a1_6 a1_7 a1_8 a2_0 a2_1 a2_2 a2_3 a2_4 a2_5 a3_0 a3_1)) else (colloquylaw08_IndexGrows.j0 k l0 a4 t222 true a1_0 a1_1 a1_2 a1_3 a1_4 a1_5 a1_6 a1_7 a1_8 a2_0 a2_1 a2_2 a2_3 a2_4 a2_5 a3_0 a3_1))
theorem colloquylaw08_IndexGrows.mono_l : ∀ k, (∀ y0 y1 y2 y3 y4 y5 y6 y7 y8 y9 y10 y11 y12 y13 y14 y15 y16 y17 y18 y19 y20, LeO (colloquylaw08_IndexGrows.j0 k y0 y1 y2 y3 y4 y5 y6 y7 y8 y9 y10 y11 y12 y13 y14 y15 y16 y17 y18 y19 y20) (colloquylaw08_IndexGrows.j0 (k + 1) y0 y1 y2 y3 y4 y5 y6 y7 y8 y9 y10 y11 y12 y13 y14 y15 y16 y17 y18 y19 y20)) ∧ (∀ y0 y1 y2 y3 y4 y5 y6 y7 y8 y9 y10 y11 y12 y13 y14 y15 y16 y17 y18 y19, LeO (colloquylaw08_IndexGrows.l0 k y0 y1 y2 y3 y4 y5 y6 y7 y8 y9 y10 y11 y12 y13 y14 y15 y16 y17 y18 y19) (colloquylaw08_IndexGrows.l0 (k + 1) y0 y1 y2 y3 y4 y5 y6 y7 y8 y9 y10 y11 y12 y13 y14 y15 y16 y17 y18 y19))
 | 0 => ⟨fun _ _ _ _ _ _ _ _ _ _ _ _ _ _ _ _ _ _ _ _ _ r h => by simp [colloquylaw08_IndexGrows.j0] at h, fun _ _ _ _ _ _ _ _ _ _ _ _ _ _ _ _ _ _ _ _ r h => by simp [colloquylaw08_IndexGrows.l0] at h⟩
 | k + 1 => by
  obtain ⟨ih0, ih1⟩ := colloquylaw08_IndexGrows.mono_l k
  refine ⟨?_, ?_⟩
  ·
   intro y0 y1 y2 y3 y4 y5 y6 y7 y8 y9 y10 y11 y12 y13 y14 y15 y16 y17 y18 y19 y20
   unfold colloquylaw08_IndexGrows.j0
   repeat' first
   | (with_reducible exact ih0 _ _ _ _ _ _ _ _ _ _ _ _ _ _ _ _ _ _ _ _ _)
   | (with_reducible exact ih1 _ _ _ _ _ _ _ _ _ _ _ _ _ _ _ _ _ _ _ _)
   | (with_reducible exact LeO.refl _)
   | (with_reducible exact LeO.none _)
   | (with_reducible refine LeO.ite ?_ ?_)
   | (with_reducible refine LeO.bind ?_ (fun _ => ?_))
   | exact ih0 _ _ _ _ _ _ _ _ _ _ _ _ _ _ _ _ _ _ _ _ _
   | exact ih1 _ _ _ _ _ _ _ _ _ _ _ _ _ _ _ _ _ _ _ _
   | exact LeO.none _
   | refine LeO.ite ?_ ?_
   | refine LeO.bind ?_ (fun _ => ?_)
  ·
   intro y0 y1 y2 y3 y4 y5 y6 y7 y8 y9 y10 y11 y12 y13 y14 y15 y16 y17 y18 y19
   unfold colloquylaw08_IndexGrows.l0
   repeat' first
   | (with_reducible exact ih0 _ _ _ _ _ _ _ _ _ _ _ _ _ _ _ _ _ _ _ _ _)
   | (with_reducible exact ih1 _ _ _ _ _ _ _ _ _ _ _ _ _ _ _ _ _ _ _ _)
   | (with_reducible exact LeO.refl _)
   | (with_reducible exact LeO.none _)
   | (with_reducible refine LeO.ite ?_ ?_)
   | (with_reducible refine LeO.bind ?_ (fun _ => ?_))
   | exact ih0 _ _ _ _ _ _ _ _ _ _ _ _ _ _ _ _ _ _ _ _ _
   | exact ih1 _ _ _ _ _ _ _ _ _ _ _ _ _ _ _ _ _ _ _ _
   | exact LeO.none _
   | refine LeO.ite ?_ ?_
   | refine LeO.bind ?_ (fun _ => ?_)
theorem colloquylaw08_IndexGrows.mono : ∀ a0 a1 a2 a3 a4 a5 a6 a7 a8 a9 a10 a11 a12 a13 a14 a15 a16 a17 a18 k, LeO (colloquylaw08_IndexGrows.f k a0 a1 a2 a3 a4 a5 a6 a7 a8 a9 a10 a11 a12 a13 a14 a15 a16 a17 a18) (colloquylaw08_IndexGrows.f (k + 1) a0 a1 a2 a3 a4 a5 a6 a7 a8 a9 a10 a11 a12 a13 a14 a15 a16 a17 a18) := by
 intro a0 a1 a2 a3 a4 a5 a6 a7 a8 a9 a10 a11 a12 a13 a14 a15 a16 a17 a18 k
 obtain ⟨ih0, ih1⟩ := colloquylaw08_IndexGrows.mono_l k
 unfold colloquylaw08_IndexGrows.f
 repeat' first
   | (with_reducible exact ih0 _ _ _ _ _ _ _ _ _ _ _ _ _ _ _ _ _ _ _ _ _)
   | (with_reducible exact ih1 _ _ _ _ _ _ _ _ _ _ _ _ _ _ _ _ _ _ _ _)
   | (with_reducible exact LeO.refl _)
   | (with_reducible exact LeO.none _)
   | (with_reducible refine LeO.ite ?_ ?_)
   | (with_reducible refine LeO.bind ?_ (fun _ => ?_))
   | exact ih0 _ _ _ _ _ _ _ _ _ _ _ _ _ _ _ _ _ _ _ _ _
   | exact ih1 _ _ _ _ _ _ _ _ _ _ _ _ _ _ _ _ _ _ _ _
   | exact LeO.none _
   | refine LeO.ite ?_ ?_
   | refine LeO.bind ?_ (fun _ => ?_)
def colloquylaw08_IndexGrows.T10 : Bool × List (List Nat × List Nat) := (true, [([], []), ([0], [0]), ([], []), ([2], [2]), ([1, 3, 1], [1, 3]), ([], []), ([], []), ([], []), ([4, 5, 6, 7, 4], [4, 5, 6, 7]), ([], []), ([9, 8, 8, 0, 1, 2, 3, 4, 5, 6, 7, 8, 9], [8, 9])])
def colloquylaw08_IndexGrows.B10 : List Nat := [0, 1, 0, 4, 15, 0, 0, 0, 255, 0, 1023]
theorem colloquylaw08_IndexGrows.tab10 : rtab .any (opsOf Try.f8 10) = colloquylaw08_IndexGrows.T10 := by kernel_rfl
theorem colloquylaw08_IndexGrows.bits10 : waitsOk colloquylaw08_IndexGrows.T10.2 colloquylaw08_IndexGrows.B10 = true := by kernel_rfl
end Go.Proofs.Ytgenfbpaooeofaa.P
