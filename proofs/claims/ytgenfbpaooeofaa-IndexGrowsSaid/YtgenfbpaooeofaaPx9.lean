/- Plain Lean functions and their contracts over the translation, written by a program of this session (myprint.py, over the kit's print); no condition but each contract's own. -/
import Derived.Test.YtgenfbpaooeofaaPx0
import Derived.Test.YtgenfbpaooeofaaPx5
import Derived.Test.YtgenfbpaooeofaaPx6
import Derived.Test.YtgenfbpaooeofaaPx8
namespace Go.Proofs.Ytgenfbpaooeofaa.P
open Go.RowKit Go.Proofs.YtgenfbpaooeofaaW.PrintWords Go.Proofs.YtgenfbpaooeofaaW.PrintLast Go.Proofs.YtgenfbpaooeofaaW.PrintMore
attribute [local go_sem] max2_int min2_int max_two min_two max_three min_three max_four min_four   -- for this text's walks alone
set_option linter.unusedVariables false
set_option linter.unusedSimpArgs false

mutual
def colloquyref06_Within.l0 : Nat → Int → Int → List Int → Int → List Int → Option (Bool)
 | 0, _, _, _, _, _ => none
 | k + 1, x5, x163000, x163001, x164000, x164001 => if x5 ≤ (x163001.length : Int) then (colloquyref06_Within.j1 k x5 true x163000 x163001 x164000 x164001) else (colloquyref06_Within.j1 k x5 (decide (x5 ≤ (x164001.length : Int))) x163000 x163001 x164000 x164001)
def colloquyref06_Within.j1 : Nat → Int → Bool → Int → List Int → Int → List Int → Option (Bool)
 | 0, _, _, _, _, _, _ => none
 | k + 1, x5, x22, x163000, x163001, x164000, x164001 => if x22 = true then ((colloquyref06_Dep.f x163000 x163001 x5).bind fun t164 => ((colloquyref06_Dep.f x164000 x164001 x5).bind fun t165 => (if t164 > t165 then (some false) else (colloquyref06_Within.l0 k (wrap64 (x5 + 1)) x163000 x163001 x164000 x164001)))) else (some true)
end
def colloquyref06_Within.f (k : Nat) (a0_0 : Int) (l0_1 : List Int) (a1_0 : Int) (l1_1 : List Int) : Option (Bool) := if a0_0 > a1_0 then (some false) else (colloquyref06_Within.l0 k 1 a0_0 l0_1 a1_0 l1_1)
def colloquyref06_Same.f (k : Nat) (a0_0 : Int) (l0_1 : List Int) (a1_0 : Int) (l1_1 : List Int) : Option (Bool) := (colloquyref06_Within.f k a0_0 l0_1 a1_0 l1_1).bind fun t168 => ((colloquyref06_Within.f k a1_0 l1_1 a0_0 l0_1).bind fun t169 => (if t168 = true then (some t169) else (some false)))
mutual
def colloquylaw08_IndexOf.j0 : Nat → List (S29) → Int → Bool → Bool → Int → Int → Int → Int → Int → ByteArray → Int → Int → Option (Bool)
 | 0, _, _, _, _, _, _, _, _, _, _, _, _ => none
 | k + 1, x0, x3, x9, x21, x171000, x171001, x171002, x171003, x171004, x171005, x172000, x172001 => if x21 = true then (some x9) else (colloquylaw08_IndexOf.l0 k x0 x3 0 x171000 x171001 x171002 x171003 x171004 x171005 x172000 x172001)
def colloquylaw08_IndexOf.l0 : Nat → List (S29) → Int → Int → Int → Int → Int → Int → Int → ByteArray → Int → Int → Option (Bool)
 | 0, _, _, _, _, _, _, _, _, _, _, _ => none
 | k + 1, x0, x3, x10, x171000, x171001, x171002, x171003, x171004, x171005, x172000, x172001 => if x10 < (x0.length : Int) then (if 0 ≤ x10 then (if ((rd_T29 x0 x10).f2) > 1099511627776 then (some true) else (colloquylaw08_IndexOf.l0 k x0 x3 (wrap64 (x10 + 1)) x171000 x171001 x171002 x171003 x171004 x171005 x172000 x172001)) else (none)) else ((index_Of.f x0 x171000 x171001 x171002 x171003 x171004 x171005 x172000 x172001 x3).bind fun bt174 => ((colloquyref08_Of.f k x0 x171000 x171001 x171002 x171003 x171004 x171005 x172000 x172001 x3).bind fun bt179 => ((colloquyref06_Same.f k bt174.1 bt174.2 bt179.1 bt179.2).bind fun t184 => (if t184 = true then (some ((bt174.2.length : Int) == (bt179.2.length : Int))) else (some false)))))
end
def colloquylaw08_IndexOf.f (k : Nat) (l0 : List (S29)) (a1_0 : Int) (a1_1 : Int) (a1_2 : Int) (a1_3 : Int) (a1_4 : Int) (a1_5 : ByteArray) (a2_0 : Int) (a2_1 : Int) (a3 : Int) : Option (Bool) := (colloquylaw08_awake.f).bind fun t172 => (if t172 = true then (colloquylaw08_IndexOf.j0 k l0 a3 t172 (decide ((l0.length : Int) > 60)) a1_0 a1_1 a1_2 a1_3 a1_4 a1_5 a2_0 a2_1) else (colloquylaw08_IndexOf.j0 k l0 a3 t172 true a1_0 a1_1 a1_2 a1_3 a1_4 a1_5 a2_0 a2_1))
end Go.Proofs.Ytgenfbpaooeofaa.P
