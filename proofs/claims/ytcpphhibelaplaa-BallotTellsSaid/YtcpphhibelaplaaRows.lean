/-
  No cell of these rows narrows 'for every input' (looked for: loops, veiled, ifaces, maps, wideKeys, modest, calm, conditions, laid).
  DERIVED. THE GIVEN ROWS OF THIS SEAT. 5 by the template 'for every input the law returns true; each argument reads behind the call as it read before'; 0 by the template 'total and deterministic' (their statements: YtcpphhibelaplaaTotals.lean).
  GIVEN WITH THE SEED: the statements are not yours to turn. If you find one false, say at which input.
  Laid BY PROGRAM, IN A SANDBOX (cutbox-rows.mjs): the forced cells as the released guide's own fill.sh prints them over the translation acae38c96a9cd4f9… (all of the seat's roots in one cut). By AI agents, Wed Nov 11 2026. No macro, syntax, notation, axiom, sorry.
-/
import Derived.Test.YtcpphhibelaplaaChecked
import GoSem.Claim
import GoSem.ClaimJoined
import GoSem.ClaimMapViews
import Derived.JoinedTies
import Derived.KernelRfl
namespace Go.Proofs.Ytcpphhibelaplaa
/- THE CELL 'sum', in the pinned program and in every row, IS THE sha256 OF THE DUMP (.gsa) THAT YtcpphhibelaplaaProg.lean LOADS. Nothing in Lean hashes anything: it is a label: what it is worth is what the hold of that sum in a sandbox is worth. -/
noncomputable def Try.pinned : Pinned := { name := "ytcpphhibelaplaa", sum := "acae38c96a9cd4f9b33490ad93fda55cac31ecb29900c48eeffb94aced65fc12", checked := Try.checked }
namespace Rows
def none {H : Type} : Left H := { results := [], args := [] }

/-- 'colloquylaw07.BallotOrder': WHATEVER THE INPUT: true; the input reads as it did. -/
def ballotOrderSpec : ChangeSpec := { name := "ballotOrder", fn := fun _ => fun
  | [d1, d2, d3] => { results := [.lit (.bool true)], args := [d1, d2, d3] }
  | _ => none }
def ballotOrderRow : OpenClaim := { program := "ytcpphhibelaplaa", sum := "acae38c96a9cd4f9b33490ad93fda55cac31ecb29900c48eeffb94aced65fc12", func := "colloquy/colloquylaw07.BallotOrder", spec := "ballotOrder", apart := false }
def BallotOrderSaid : Prop := ballotOrderRow.holds Try.pinned (OpenSpec.ofChange ballotOrderSpec)

/-- ITS FALSE NEIGHBOUR: 'it returns false'. Refute it at one input. -/
def ballotOrderWrong : ChangeSpec := { name := "ballotOrder", fn := fun _ => fun
  | [d1, d2, d3] => { results := [.lit (.bool false)], args := [d1, d2, d3] }
  | _ => none }
def BallotOrderWrongFalsely : Prop := ballotOrderRow.holds Try.pinned (OpenSpec.ofChange ballotOrderWrong)

/-- 'colloquylaw07.BallotNext': WHATEVER THE INPUT: true; the input reads as it did. -/
def ballotNextSpec : ChangeSpec := { name := "ballotNext", fn := fun _ => fun
  | [d1, d2, d3] => { results := [.lit (.bool true)], args := [d1, d2, d3] }
  | _ => none }
def ballotNextRow : OpenClaim := { program := "ytcpphhibelaplaa", sum := "acae38c96a9cd4f9b33490ad93fda55cac31ecb29900c48eeffb94aced65fc12", func := "colloquy/colloquylaw07.BallotNext", spec := "ballotNext", apart := false }
def BallotNextSaid : Prop := ballotNextRow.holds Try.pinned (OpenSpec.ofChange ballotNextSpec)

/-- ITS FALSE NEIGHBOUR: 'it returns false'. Refute it at one input. -/
def ballotNextWrong : ChangeSpec := { name := "ballotNext", fn := fun _ => fun
  | [d1, d2, d3] => { results := [.lit (.bool false)], args := [d1, d2, d3] }
  | _ => none }
def BallotNextWrongFalsely : Prop := ballotNextRow.holds Try.pinned (OpenSpec.ofChange ballotNextWrong)

/-- 'colloquylaw07.BallotFirst': WHATEVER THE INPUT: true; the input reads as it did. -/
def ballotFirstSpec : ChangeSpec := { name := "ballotFirst", fn := fun _ => fun
  | [d1, d2, d3, d4] => { results := [.lit (.bool true)], args := [d1, d2, d3, d4] }
  | _ => none }
def ballotFirstRow : OpenClaim := { program := "ytcpphhibelaplaa", sum := "acae38c96a9cd4f9b33490ad93fda55cac31ecb29900c48eeffb94aced65fc12", func := "colloquy/colloquylaw07.BallotFirst", spec := "ballotFirst", apart := false }
def BallotFirstSaid : Prop := ballotFirstRow.holds Try.pinned (OpenSpec.ofChange ballotFirstSpec)

/-- ITS FALSE NEIGHBOUR: 'it returns false'. Refute it at one input. -/
def ballotFirstWrong : ChangeSpec := { name := "ballotFirst", fn := fun _ => fun
  | [d1, d2, d3, d4] => { results := [.lit (.bool false)], args := [d1, d2, d3, d4] }
  | _ => none }
def BallotFirstWrongFalsely : Prop := ballotFirstRow.holds Try.pinned (OpenSpec.ofChange ballotFirstWrong)

/-- 'colloquylaw07.BallotMost': WHATEVER THE INPUT: true; the input reads as it did. -/
def ballotMostSpec : ChangeSpec := { name := "ballotMost", fn := fun _ => fun
  | [d] => { results := [.lit (.bool true)], args := [d] }
  | _ => none }
def ballotMostRow : OpenClaim := { program := "ytcpphhibelaplaa", sum := "acae38c96a9cd4f9b33490ad93fda55cac31ecb29900c48eeffb94aced65fc12", func := "colloquy/colloquylaw07.BallotMost", spec := "ballotMost", unfollowed := true, recurses := true, apart := false }
def BallotMostSaid : Prop := ballotMostRow.holds Try.pinned (OpenSpec.ofChange ballotMostSpec)

/-- ITS FALSE NEIGHBOUR: 'it returns false'. Refute it at one input. -/
def ballotMostWrong : ChangeSpec := { name := "ballotMost", fn := fun _ => fun
  | [d] => { results := [.lit (.bool false)], args := [d] }
  | _ => none }
def BallotMostWrongFalsely : Prop := ballotMostRow.holds Try.pinned (OpenSpec.ofChange ballotMostWrong)

/-- 'colloquylaw07.BallotTells': WHATEVER THE INPUT: true; the input reads as it did. -/
def ballotTellsSpec : ChangeSpec := { name := "ballotTells", fn := fun _ => fun
  | [d1, d2, d3, d4] => { results := [.lit (.bool true)], args := [d1, d2, d3, d4] }
  | _ => none }
def ballotTellsRow : OpenClaim := { program := "ytcpphhibelaplaa", sum := "acae38c96a9cd4f9b33490ad93fda55cac31ecb29900c48eeffb94aced65fc12", func := "colloquy/colloquylaw07.BallotTells", spec := "ballotTells", unfollowed := true, recurses := true, apart := false }
def BallotTellsSaid : Prop := ballotTellsRow.holds Try.pinned (OpenSpec.ofChange ballotTellsSpec)

/-- ITS FALSE NEIGHBOUR: 'it returns false'. Refute it at one input. -/
def ballotTellsWrong : ChangeSpec := { name := "ballotTells", fn := fun _ => fun
  | [d1, d2, d3, d4] => { results := [.lit (.bool false)], args := [d1, d2, d3, d4] }
  | _ => none }
def BallotTellsWrongFalsely : Prop := ballotTellsRow.holds Try.pinned (OpenSpec.ofChange ballotTellsWrong)

/- THE SECOND FORM. 'bulk': how many values and letters a reading holds, each counted each time it is reached (what is shared counts as often as it is met; a slice's spare places count too). A statement '..UptoSaid' is the law's where the arguments, and the package variables that the reading takes, are together of bulk at most 1048576: NARROWER than '..Said'. Prove '..Said' where nothing that the law and all that it calls make is longer than what came in: it says more and counts as full. Else prove '..UptoSaid'. A law counts once. -/
mutual
def uptoBulk {H : Type} : DataW H → Nat
  | .lit (.string bytes) => bytes.length + 1
  | .lit _ => 1
  | .nil => 1
  | .ptr d => uptoBulk d + 1
  | .slice elems spare => uptoBulkAll elems + uptoBulkAll spare + 1
  | .agg parts => uptoBulkAll parts + 1
  | .iface _ d => uptoBulk d + 1
  | .map entries => uptoBulkEntries entries + 1
  | .held _ => 1
def uptoBulkAll {H : Type} : List (DataW H) → Nat
  | [] => 0
  | d :: r => uptoBulk d + uptoBulkAll r
def uptoBulkEntries {H : Type} : List (Lit × DataW H) → Nat
  | [] => 0
  | x :: r => uptoBulkEntry x + uptoBulkEntries r
def uptoBulkEntry {H : Type} : Lit × DataW H → Nat
  | (.string bytes, d) => bytes.length + uptoBulk d + 1
  | (_, d) => uptoBulk d + 1
 end
def uptoSmall : (H : Type) → List (DataW H) → Bool := fun _ ds => decide (uptoBulkAll ds ≤ 1048576)
def OpenSpec.upto (s : _root_.Go.ChangeSpec) : _root_.Go.OpenSpec := { _root_.Go.OpenSpec.ofChange s with cond := some uptoSmall }

/-- 'colloquylaw07.BallotOrder', WHERE WHAT IT READS IS OF BULK AT MOST 1048576: true; the input reads as it did. -/
def ballotOrderUptoRow : OpenClaim := { program := "ytcpphhibelaplaa", sum := "acae38c96a9cd4f9b33490ad93fda55cac31ecb29900c48eeffb94aced65fc12", func := "colloquy/colloquylaw07.BallotOrder", spec := "ballotOrder", apart := false, narrowed := true }
def BallotOrderUptoSaid : Prop := ballotOrderUptoRow.holds Try.pinned (OpenSpec.upto ballotOrderSpec)

/-- 'colloquylaw07.BallotNext', WHERE WHAT IT READS IS OF BULK AT MOST 1048576: true; the input reads as it did. -/
def ballotNextUptoRow : OpenClaim := { program := "ytcpphhibelaplaa", sum := "acae38c96a9cd4f9b33490ad93fda55cac31ecb29900c48eeffb94aced65fc12", func := "colloquy/colloquylaw07.BallotNext", spec := "ballotNext", apart := false, narrowed := true }
def BallotNextUptoSaid : Prop := ballotNextUptoRow.holds Try.pinned (OpenSpec.upto ballotNextSpec)

/-- 'colloquylaw07.BallotFirst', WHERE WHAT IT READS IS OF BULK AT MOST 1048576: true; the input reads as it did. -/
def ballotFirstUptoRow : OpenClaim := { program := "ytcpphhibelaplaa", sum := "acae38c96a9cd4f9b33490ad93fda55cac31ecb29900c48eeffb94aced65fc12", func := "colloquy/colloquylaw07.BallotFirst", spec := "ballotFirst", apart := false, narrowed := true }
def BallotFirstUptoSaid : Prop := ballotFirstUptoRow.holds Try.pinned (OpenSpec.upto ballotFirstSpec)

/-- 'colloquylaw07.BallotMost', WHERE WHAT IT READS IS OF BULK AT MOST 1048576: true; the input reads as it did. -/
def ballotMostUptoRow : OpenClaim := { program := "ytcpphhibelaplaa", sum := "acae38c96a9cd4f9b33490ad93fda55cac31ecb29900c48eeffb94aced65fc12", func := "colloquy/colloquylaw07.BallotMost", spec := "ballotMost", unfollowed := true, recurses := true, apart := false, narrowed := true }
def BallotMostUptoSaid : Prop := ballotMostUptoRow.holds Try.pinned (OpenSpec.upto ballotMostSpec)

/-- 'colloquylaw07.BallotTells', WHERE WHAT IT READS IS OF BULK AT MOST 1048576: true; the input reads as it did. -/
def ballotTellsUptoRow : OpenClaim := { program := "ytcpphhibelaplaa", sum := "acae38c96a9cd4f9b33490ad93fda55cac31ecb29900c48eeffb94aced65fc12", func := "colloquy/colloquylaw07.BallotTells", spec := "ballotTells", unfollowed := true, recurses := true, apart := false, narrowed := true }
def BallotTellsUptoSaid : Prop := ballotTellsUptoRow.holds Try.pinned (OpenSpec.upto ballotTellsSpec)

end Rows
end Go.Proofs.Ytcpphhibelaplaa
