/- Plain Lean functions and their contracts over the translation, written by a program of this session (myprint.py, over the kit's print); no condition but each contract's own. -/
import Derived.Test.YtgenfbpaooeofaaPx0
import Derived.Test.YtgenfbpaooeofaaPx6
namespace Go.Proofs.Ytgenfbpaooeofaa.P
open Go.RowKit Go.Proofs.YtgenfbpaooeofaaW.PrintWords Go.Proofs.YtgenfbpaooeofaaW.PrintLast Go.Proofs.YtgenfbpaooeofaaW.PrintMore
attribute [local go_sem] max2_int min2_int max_two min_two max_three min_three max_four min_four   -- for this text's walks alone
set_option linter.unusedVariables false
set_option linter.unusedSimpArgs false

def colloquyref05_Interfere.j0 : Nat → Bool → Int → Int → Int → Int → Int → ByteArray → Int → Int → Int → Int → Int → ByteArray → Option (Bool)
 | 0, _, _, _, _, _, _, _, _, _, _, _, _, _ => none
 | k + 1, x28, x140000, x140001, x140002, x140003, x140004, x140005, x141000, x141001, x141002, x141003, x141004, x141005 => if x28 = true then (some false) else ((colloquyref04_Reads.f x140000 x140001 x140002 x140003 x140004 x140005).bind fun t143 => ((colloquyref04_Reads.f x141000 x141001 x141002 x141003 x141004 x141005).bind fun t144 => (if x140000 = x141000 then (some true) else (if x140003 = x141003 then (if t143 = true then (some (!t144)) else (some true)) else (some false)))))
def colloquyref05_Interfere.f (k : Nat) (a0_0 : Int) (a0_1 : Int) (a0_2 : Int) (a0_3 : Int) (a0_4 : Int) (a0_5 : ByteArray) (a1_0 : Int) (a1_1 : Int) (a1_2 : Int) (a1_3 : Int) (a1_4 : Int) (a1_5 : ByteArray) : Option (Bool) := (colloquyref04_May.f k a0_0 a0_1 a0_2 a0_3 a0_4 a0_5).bind fun t141 => ((colloquyref04_May.f k a1_0 a1_1 a1_2 a1_3 a1_4 a1_5).bind fun t142 => (if t141 = true then (if t142 = true then (if a0_2 = 0 then (colloquyref05_Interfere.j0 k true a0_0 a0_1 a0_2 a0_3 a0_4 a0_5 a1_0 a1_1 a1_2 a1_3 a1_4 a1_5) else (colloquyref05_Interfere.j0 k (a1_2 == 0) a0_0 a0_1 a0_2 a0_3 a0_4 a0_5 a1_0 a1_1 a1_2 a1_3 a1_4 a1_5)) else (colloquyref05_Interfere.j0 k true a0_0 a0_1 a0_2 a0_3 a0_4 a0_5 a1_0 a1_1 a1_2 a1_3 a1_4 a1_5)) else (colloquyref05_Interfere.j0 k true a0_0 a0_1 a0_2 a0_3 a0_4 a0_5 a1_0 a1_1 a1_2 a1_3 a1_4 a1_5)))
end Go.Proofs.Ytgenfbpaooeofaa.P
