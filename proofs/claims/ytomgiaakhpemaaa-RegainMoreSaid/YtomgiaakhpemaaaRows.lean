/-
  No cell of these rows narrows 'for every input' (looked for: loops, veiled, ifaces, maps, wideKeys, modest, calm, conditions, laid).
  DERIVED. THE GIVEN ROWS OF THIS SEAT. 5 by the template 'for every input the law returns true; each argument reads behind the call as it read before'; 0 by the template 'total and deterministic' (their statements: YtomgiaakhpemaaaTotals.lean).
  GIVEN WITH THE SEED: the statements are not yours to turn. If you find one false, say at which input.
  Laid BY PROGRAM, IN A SANDBOX (cutbox-rows.mjs): the forced cells as the released guide's own fill.sh prints them over the translation d80ab9bd44227b81… (all of the seat's roots in one cut). By AI agents, Wed Nov 11 2026. No macro, syntax, notation, axiom, sorry.
-/
import Derived.Test.YtomgiaakhpemaaaChecked
import GoSem.Claim
import GoSem.ClaimJoined
import GoSem.ClaimMapViews
import Derived.JoinedTies
import Derived.KernelRfl
namespace Go.Proofs.Ytomgiaakhpemaaa
/- THE CELL 'sum', in the pinned program and in every row, IS THE sha256 OF THE DUMP (.gsa) THAT YtomgiaakhpemaaaProg.lean LOADS. Nothing in Lean hashes anything: it is a label: what it is worth is what the hold of that sum in a sandbox is worth. -/
noncomputable def Try.pinned : Pinned := { name := "ytomgiaakhpemaaa", sum := "d80ab9bd44227b81b7233860e930416c199a84f30977841831697376a7b828cc", checked := Try.checked }
namespace Rows
def none {H : Type} : Left H := { results := [], args := [] }

/-- 'colloquylaw10.RegainDone': WHATEVER THE INPUT: true; the input reads as it did. -/
def regainDoneSpec : ChangeSpec := { name := "regainDone", fn := fun _ => fun
  | [d1, d2, d3] => { results := [.lit (.bool true)], args := [d1, d2, d3] }
  | _ => none }
def regainDoneRow : OpenClaim := { program := "ytomgiaakhpemaaa", sum := "d80ab9bd44227b81b7233860e930416c199a84f30977841831697376a7b828cc", func := "colloquy/colloquylaw10.RegainDone", spec := "regainDone", unfollowed := true, recurses := true, apart := false }
def RegainDoneSaid : Prop := regainDoneRow.holds Try.pinned (OpenSpec.ofChange regainDoneSpec)

/-- ITS FALSE NEIGHBOUR: 'it returns false'. Refute it at one input. -/
def regainDoneWrong : ChangeSpec := { name := "regainDone", fn := fun _ => fun
  | [d1, d2, d3] => { results := [.lit (.bool false)], args := [d1, d2, d3] }
  | _ => none }
def RegainDoneWrongFalsely : Prop := regainDoneRow.holds Try.pinned (OpenSpec.ofChange regainDoneWrong)

/-- 'colloquylaw10.RegainFills': WHATEVER THE INPUT: true; the input reads as it did. -/
def regainFillsSpec : ChangeSpec := { name := "regainFills", fn := fun _ => fun
  | [d1, d2, d3] => { results := [.lit (.bool true)], args := [d1, d2, d3] }
  | _ => none }
def regainFillsRow : OpenClaim := { program := "ytomgiaakhpemaaa", sum := "d80ab9bd44227b81b7233860e930416c199a84f30977841831697376a7b828cc", func := "colloquy/colloquylaw10.RegainFills", spec := "regainFills", unfollowed := true, recurses := true, apart := false }
def RegainFillsSaid : Prop := regainFillsRow.holds Try.pinned (OpenSpec.ofChange regainFillsSpec)

/-- ITS FALSE NEIGHBOUR: 'it returns false'. Refute it at one input. -/
def regainFillsWrong : ChangeSpec := { name := "regainFills", fn := fun _ => fun
  | [d1, d2, d3] => { results := [.lit (.bool false)], args := [d1, d2, d3] }
  | _ => none }
def RegainFillsWrongFalsely : Prop := regainFillsRow.holds Try.pinned (OpenSpec.ofChange regainFillsWrong)

/-- 'colloquylaw10.RegainDecides': WHATEVER THE INPUT: true; the input reads as it did. -/
def regainDecidesSpec : ChangeSpec := { name := "regainDecides", fn := fun _ => fun
  | [d1, d2, d3] => { results := [.lit (.bool true)], args := [d1, d2, d3] }
  | _ => none }
def regainDecidesRow : OpenClaim := { program := "ytomgiaakhpemaaa", sum := "d80ab9bd44227b81b7233860e930416c199a84f30977841831697376a7b828cc", func := "colloquy/colloquylaw10.RegainDecides", spec := "regainDecides", unfollowed := true, recurses := true, apart := false }
def RegainDecidesSaid : Prop := regainDecidesRow.holds Try.pinned (OpenSpec.ofChange regainDecidesSpec)

/-- ITS FALSE NEIGHBOUR: 'it returns false'. Refute it at one input. -/
def regainDecidesWrong : ChangeSpec := { name := "regainDecides", fn := fun _ => fun
  | [d1, d2, d3] => { results := [.lit (.bool false)], args := [d1, d2, d3] }
  | _ => none }
def RegainDecidesWrongFalsely : Prop := regainDecidesRow.holds Try.pinned (OpenSpec.ofChange regainDecidesWrong)

/-- 'colloquylaw10.RegainFast': WHATEVER THE INPUT: true; the input reads as it did. -/
def regainFastSpec : ChangeSpec := { name := "regainFast", fn := fun _ => fun
  | [d1, d2, d3, d4] => { results := [.lit (.bool true)], args := [d1, d2, d3, d4] }
  | _ => none }
def regainFastRow : OpenClaim := { program := "ytomgiaakhpemaaa", sum := "d80ab9bd44227b81b7233860e930416c199a84f30977841831697376a7b828cc", func := "colloquy/colloquylaw10.RegainFast", spec := "regainFast", unfollowed := true, recurses := true, apart := false }
def RegainFastSaid : Prop := regainFastRow.holds Try.pinned (OpenSpec.ofChange regainFastSpec)

/-- ITS FALSE NEIGHBOUR: 'it returns false'. Refute it at one input. -/
def regainFastWrong : ChangeSpec := { name := "regainFast", fn := fun _ => fun
  | [d1, d2, d3, d4] => { results := [.lit (.bool false)], args := [d1, d2, d3, d4] }
  | _ => none }
def RegainFastWrongFalsely : Prop := regainFastRow.holds Try.pinned (OpenSpec.ofChange regainFastWrong)

/-- 'colloquylaw10.RegainMore': WHATEVER THE INPUT: true; the input reads as it did. -/
def regainMoreSpec : ChangeSpec := { name := "regainMore", fn := fun _ => fun
  | [d1, d2, d3, d4] => { results := [.lit (.bool true)], args := [d1, d2, d3, d4] }
  | _ => none }
def regainMoreRow : OpenClaim := { program := "ytomgiaakhpemaaa", sum := "d80ab9bd44227b81b7233860e930416c199a84f30977841831697376a7b828cc", func := "colloquy/colloquylaw10.RegainMore", spec := "regainMore", unfollowed := true, recurses := true, apart := false }
def RegainMoreSaid : Prop := regainMoreRow.holds Try.pinned (OpenSpec.ofChange regainMoreSpec)

/-- ITS FALSE NEIGHBOUR: 'it returns false'. Refute it at one input. -/
def regainMoreWrong : ChangeSpec := { name := "regainMore", fn := fun _ => fun
  | [d1, d2, d3, d4] => { results := [.lit (.bool false)], args := [d1, d2, d3, d4] }
  | _ => none }
def RegainMoreWrongFalsely : Prop := regainMoreRow.holds Try.pinned (OpenSpec.ofChange regainMoreWrong)

/- THE SECOND FORM. 'bulk': how many values and letters a reading holds, each counted each time it is reached (what is shared counts as often as it is met; a slice's spare places count too). A statement '..UptoSaid' is the law's where the arguments, and the package variables that the reading takes, are together of bulk at most 1048576: NARROWER than '..Said'. Prove '..Said' where nothing that the law and all that it calls make is longer than what came in: it says more and counts as full. Else prove '..UptoSaid'. A law counts once. -/
mutual
def uptoBulk {H : Type} : DataW H → Nat
  | .lit (.string bytes) => bytes.length + 1
  | .lit _ => 1
  | .nil => 1
  | .ptr d => uptoBulk d + 1
  | .slice elems spare => uptoBulkAll elems + uptoBulkAll spare + 1
  | .agg parts => uptoBulkAll parts + 1
  | .iface _ d => uptoBulk d + 1
  | .map entries => uptoBulkEntries entries + 1
  | .held _ => 1
def uptoBulkAll {H : Type} : List (DataW H) → Nat
  | [] => 0
  | d :: r => uptoBulk d + uptoBulkAll r
def uptoBulkEntries {H : Type} : List (Lit × DataW H) → Nat
  | [] => 0
  | x :: r => uptoBulkEntry x + uptoBulkEntries r
def uptoBulkEntry {H : Type} : Lit × DataW H → Nat
  | (.string bytes, d) => bytes.length + uptoBulk d + 1
  | (_, d) => uptoBulk d + 1
 end
def uptoSmall : (H : Type) → List (DataW H) → Bool := fun _ ds => decide (uptoBulkAll ds ≤ 1048576)
def OpenSpec.upto (s : _root_.Go.ChangeSpec) : _root_.Go.OpenSpec := { _root_.Go.OpenSpec.ofChange s with cond := some uptoSmall }

/-- 'colloquylaw10.RegainDone', WHERE WHAT IT READS IS OF BULK AT MOST 1048576: true; the input reads as it did. -/
def regainDoneUptoRow : OpenClaim := { program := "ytomgiaakhpemaaa", sum := "d80ab9bd44227b81b7233860e930416c199a84f30977841831697376a7b828cc", func := "colloquy/colloquylaw10.RegainDone", spec := "regainDone", unfollowed := true, recurses := true, apart := false, narrowed := true }
def RegainDoneUptoSaid : Prop := regainDoneUptoRow.holds Try.pinned (OpenSpec.upto regainDoneSpec)

/-- 'colloquylaw10.RegainFills', WHERE WHAT IT READS IS OF BULK AT MOST 1048576: true; the input reads as it did. -/
def regainFillsUptoRow : OpenClaim := { program := "ytomgiaakhpemaaa", sum := "d80ab9bd44227b81b7233860e930416c199a84f30977841831697376a7b828cc", func := "colloquy/colloquylaw10.RegainFills", spec := "regainFills", unfollowed := true, recurses := true, apart := false, narrowed := true }
def RegainFillsUptoSaid : Prop := regainFillsUptoRow.holds Try.pinned (OpenSpec.upto regainFillsSpec)

/-- 'colloquylaw10.RegainDecides', WHERE WHAT IT READS IS OF BULK AT MOST 1048576: true; the input reads as it did. -/
def regainDecidesUptoRow : OpenClaim := { program := "ytomgiaakhpemaaa", sum := "d80ab9bd44227b81b7233860e930416c199a84f30977841831697376a7b828cc", func := "colloquy/colloquylaw10.RegainDecides", spec := "regainDecides", unfollowed := true, recurses := true, apart := false, narrowed := true }
def RegainDecidesUptoSaid : Prop := regainDecidesUptoRow.holds Try.pinned (OpenSpec.upto regainDecidesSpec)

/-- 'colloquylaw10.RegainFast', WHERE WHAT IT READS IS OF BULK AT MOST 1048576: true; the input reads as it did. -/
def regainFastUptoRow : OpenClaim := { program := "ytomgiaakhpemaaa", sum := "d80ab9bd44227b81b7233860e930416c199a84f30977841831697376a7b828cc", func := "colloquy/colloquylaw10.RegainFast", spec := "regainFast", unfollowed := true, recurses := true, apart := false, narrowed := true }
def RegainFastUptoSaid : Prop := regainFastUptoRow.holds Try.pinned (OpenSpec.upto regainFastSpec)

/-- 'colloquylaw10.RegainMore', WHERE WHAT IT READS IS OF BULK AT MOST 1048576: true; the input reads as it did. -/
def regainMoreUptoRow : OpenClaim := { program := "ytomgiaakhpemaaa", sum := "d80ab9bd44227b81b7233860e930416c199a84f30977841831697376a7b828cc", func := "colloquy/colloquylaw10.RegainMore", spec := "regainMore", unfollowed := true, recurses := true, apart := false, narrowed := true }
def RegainMoreUptoSaid : Prop := regainMoreUptoRow.holds Try.pinned (OpenSpec.upto regainMoreSpec)

end Rows
end Go.Proofs.Ytomgiaakhpemaaa
