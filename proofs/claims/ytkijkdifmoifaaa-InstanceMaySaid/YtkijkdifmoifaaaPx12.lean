/- Plain Lean functions and their contracts over the translation, written by a program of this session (myprint.py, over the kit's print); no condition but each contract's own. -/
import Derived.Test.YtkijkdifmoifaaaPx0
import Derived.Test.YtkijkdifmoifaaaPx10
import Derived.Test.YtkijkdifmoifaaaPx11
namespace Go.Proofs.Ytkijkdifmoifaaa.P
open Go.RowKit Go.Proofs.YtkijkdifmoifaaaW.PrintWords Go.Proofs.YtkijkdifmoifaaaW.PrintLast Go.Proofs.YtkijkdifmoifaaaW.PrintMore
attribute [local go_sem] max2_int min2_int max_two min_two max_three min_three max_four min_four   -- for this text's walks alone
set_option linter.unusedVariables false
set_option linter.unusedSimpArgs false

end Go.Proofs.Ytkijkdifmoifaaa.P
