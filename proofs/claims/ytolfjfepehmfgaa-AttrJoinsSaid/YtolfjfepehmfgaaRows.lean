/-
  No cell of these rows narrows 'for every input' (looked for: loops, veiled, ifaces, maps, wideKeys, modest, calm, conditions, laid).
  DERIVED. THE GIVEN ROWS OF THIS SEAT. 6 by the template 'for every input the law returns true; each argument reads behind the call as it read before'; 0 by the template 'total and deterministic' (their statements: YtolfjfepehmfgaaTotals.lean).
  GIVEN WITH THE SEED: the statements are not yours to turn. If you find one false, say at which input.
  Laid BY PROGRAM, IN A SANDBOX (cutbox-rows.mjs): the forced cells as the released guide's own fill.sh prints them over the translation ba24d07ccb6b959e… (all of the seat's roots in one cut). By AI agents, Wed Nov 11 2026. No macro, syntax, notation, axiom, sorry.
-/
import Derived.Test.YtolfjfepehmfgaaChecked
import GoSem.Claim
import GoSem.ClaimJoined
import GoSem.ClaimMapViews
import Derived.JoinedTies
import Derived.KernelRfl
namespace Go.Proofs.Ytolfjfepehmfgaa
/- THE CELL 'sum', in the pinned program and in every row, IS THE sha256 OF THE DUMP (.gsa) THAT YtolfjfepehmfgaaProg.lean LOADS. Nothing in Lean hashes anything: it is a label: what it is worth is what the hold of that sum in a sandbox is worth. -/
noncomputable def Try.pinned : Pinned := { name := "ytolfjfepehmfgaa", sum := "ba24d07ccb6b959eb8f1652685d5f8ad3cbba8bc860eb72a6aae491a80f86bae", checked := Try.checked }
namespace Rows
def none {H : Type} : Left H := { results := [], args := [] }

/-- 'colloquylaw06.AttrMerges': WHATEVER THE INPUT: true; the input reads as it did. -/
def attrMergesSpec : ChangeSpec := { name := "attrMerges", fn := fun _ => fun
  | [d] => { results := [.lit (.bool true)], args := [d] }
  | _ => none }
def attrMergesRow : OpenClaim := { program := "ytolfjfepehmfgaa", sum := "ba24d07ccb6b959eb8f1652685d5f8ad3cbba8bc860eb72a6aae491a80f86bae", func := "colloquy/colloquylaw06.AttrMerges", spec := "attrMerges", apart := false }
def AttrMergesSaid : Prop := attrMergesRow.holds Try.pinned (OpenSpec.ofChange attrMergesSpec)

/-- ITS FALSE NEIGHBOUR: 'it returns false'. Refute it at one input. -/
def attrMergesWrong : ChangeSpec := { name := "attrMerges", fn := fun _ => fun
  | [d] => { results := [.lit (.bool false)], args := [d] }
  | _ => none }
def AttrMergesWrongFalsely : Prop := attrMergesRow.holds Try.pinned (OpenSpec.ofChange attrMergesWrong)

/-- 'colloquylaw06.AttrWaits': WHATEVER THE INPUT: true; the input reads as it did. -/
def attrWaitsSpec : ChangeSpec := { name := "attrWaits", fn := fun _ => fun
  | [d1, d2, d3, d4] => { results := [.lit (.bool true)], args := [d1, d2, d3, d4] }
  | _ => none }
def attrWaitsRow : OpenClaim := { program := "ytolfjfepehmfgaa", sum := "ba24d07ccb6b959eb8f1652685d5f8ad3cbba8bc860eb72a6aae491a80f86bae", func := "colloquy/colloquylaw06.AttrWaits", spec := "attrWaits", unfollowed := true, recurses := true, apart := false }
def AttrWaitsSaid : Prop := attrWaitsRow.holds Try.pinned (OpenSpec.ofChange attrWaitsSpec)

/-- ITS FALSE NEIGHBOUR: 'it returns false'. Refute it at one input. -/
def attrWaitsWrong : ChangeSpec := { name := "attrWaits", fn := fun _ => fun
  | [d1, d2, d3, d4] => { results := [.lit (.bool false)], args := [d1, d2, d3, d4] }
  | _ => none }
def AttrWaitsWrongFalsely : Prop := attrWaitsRow.holds Try.pinned (OpenSpec.ofChange attrWaitsWrong)

/-- 'colloquylaw06.AttrOrder': WHATEVER THE INPUT: true; the input reads as it did. -/
def attrOrderSpec : ChangeSpec := { name := "attrOrder", fn := fun _ => fun
  | [d1, d2, d3] => { results := [.lit (.bool true)], args := [d1, d2, d3] }
  | _ => none }
def attrOrderRow : OpenClaim := { program := "ytolfjfepehmfgaa", sum := "ba24d07ccb6b959eb8f1652685d5f8ad3cbba8bc860eb72a6aae491a80f86bae", func := "colloquy/colloquylaw06.AttrOrder", spec := "attrOrder", unfollowed := true, recurses := true, apart := false }
def AttrOrderSaid : Prop := attrOrderRow.holds Try.pinned (OpenSpec.ofChange attrOrderSpec)

/-- ITS FALSE NEIGHBOUR: 'it returns false'. Refute it at one input. -/
def attrOrderWrong : ChangeSpec := { name := "attrOrder", fn := fun _ => fun
  | [d1, d2, d3] => { results := [.lit (.bool false)], args := [d1, d2, d3] }
  | _ => none }
def AttrOrderWrongFalsely : Prop := attrOrderRow.holds Try.pinned (OpenSpec.ofChange attrOrderWrong)

/-- 'colloquylaw06.AttrTells': WHATEVER THE INPUT: true; the input reads as it did. -/
def attrTellsSpec : ChangeSpec := { name := "attrTells", fn := fun _ => fun
  | [d1, d2, d3, d4] => { results := [.lit (.bool true)], args := [d1, d2, d3, d4] }
  | _ => none }
def attrTellsRow : OpenClaim := { program := "ytolfjfepehmfgaa", sum := "ba24d07ccb6b959eb8f1652685d5f8ad3cbba8bc860eb72a6aae491a80f86bae", func := "colloquy/colloquylaw06.AttrTells", spec := "attrTells", unfollowed := true, recurses := true, apart := false }
def AttrTellsSaid : Prop := attrTellsRow.holds Try.pinned (OpenSpec.ofChange attrTellsSpec)

/-- ITS FALSE NEIGHBOUR: 'it returns false'. Refute it at one input. -/
def attrTellsWrong : ChangeSpec := { name := "attrTells", fn := fun _ => fun
  | [d1, d2, d3, d4] => { results := [.lit (.bool false)], args := [d1, d2, d3, d4] }
  | _ => none }
def AttrTellsWrongFalsely : Prop := attrTellsRow.holds Try.pinned (OpenSpec.ofChange attrTellsWrong)

/-- 'colloquylaw06.AttrJoins': WHATEVER THE INPUT: true; the input reads as it did. -/
def attrJoinsSpec : ChangeSpec := { name := "attrJoins", fn := fun _ => fun
  | [d1, d2, d3] => { results := [.lit (.bool true)], args := [d1, d2, d3] }
  | _ => none }
def attrJoinsRow : OpenClaim := { program := "ytolfjfepehmfgaa", sum := "ba24d07ccb6b959eb8f1652685d5f8ad3cbba8bc860eb72a6aae491a80f86bae", func := "colloquy/colloquylaw06.AttrJoins", spec := "attrJoins", unfollowed := true, recurses := true, apart := false }
def AttrJoinsSaid : Prop := attrJoinsRow.holds Try.pinned (OpenSpec.ofChange attrJoinsSpec)

/-- ITS FALSE NEIGHBOUR: 'it returns false'. Refute it at one input. -/
def attrJoinsWrong : ChangeSpec := { name := "attrJoins", fn := fun _ => fun
  | [d1, d2, d3] => { results := [.lit (.bool false)], args := [d1, d2, d3] }
  | _ => none }
def AttrJoinsWrongFalsely : Prop := attrJoinsRow.holds Try.pinned (OpenSpec.ofChange attrJoinsWrong)

/-- 'colloquylaw06.AttrNone': WHATEVER THE INPUT: true; the input reads as it did. -/
def attrNoneSpec : ChangeSpec := { name := "attrNone", fn := fun _ => fun
  | [d1, d2] => { results := [.lit (.bool true)], args := [d1, d2] }
  | _ => none }
def attrNoneRow : OpenClaim := { program := "ytolfjfepehmfgaa", sum := "ba24d07ccb6b959eb8f1652685d5f8ad3cbba8bc860eb72a6aae491a80f86bae", func := "colloquy/colloquylaw06.AttrNone", spec := "attrNone", unfollowed := true, recurses := true, apart := false }
def AttrNoneSaid : Prop := attrNoneRow.holds Try.pinned (OpenSpec.ofChange attrNoneSpec)

/-- ITS FALSE NEIGHBOUR: 'it returns false'. Refute it at one input. -/
def attrNoneWrong : ChangeSpec := { name := "attrNone", fn := fun _ => fun
  | [d1, d2] => { results := [.lit (.bool false)], args := [d1, d2] }
  | _ => none }
def AttrNoneWrongFalsely : Prop := attrNoneRow.holds Try.pinned (OpenSpec.ofChange attrNoneWrong)

/- THE SECOND FORM. 'bulk': how many values and letters a reading holds, each counted each time it is reached (what is shared counts as often as it is met; a slice's spare places count too). A statement '..UptoSaid' is the law's where the arguments, and the package variables that the reading takes, are together of bulk at most 1048576: NARROWER than '..Said'. Prove '..Said' where nothing that the law and all that it calls make is longer than what came in: it says more and counts as full. Else prove '..UptoSaid'. A law counts once. -/
mutual
def uptoBulk {H : Type} : DataW H → Nat
  | .lit (.string bytes) => bytes.length + 1
  | .lit _ => 1
  | .nil => 1
  | .ptr d => uptoBulk d + 1
  | .slice elems spare => uptoBulkAll elems + uptoBulkAll spare + 1
  | .agg parts => uptoBulkAll parts + 1
  | .iface _ d => uptoBulk d + 1
  | .map entries => uptoBulkEntries entries + 1
  | .held _ => 1
def uptoBulkAll {H : Type} : List (DataW H) → Nat
  | [] => 0
  | d :: r => uptoBulk d + uptoBulkAll r
def uptoBulkEntries {H : Type} : List (Lit × DataW H) → Nat
  | [] => 0
  | x :: r => uptoBulkEntry x + uptoBulkEntries r
def uptoBulkEntry {H : Type} : Lit × DataW H → Nat
  | (.string bytes, d) => bytes.length + uptoBulk d + 1
  | (_, d) => uptoBulk d + 1
 end
def uptoSmall : (H : Type) → List (DataW H) → Bool := fun _ ds => decide (uptoBulkAll ds ≤ 1048576)
def OpenSpec.upto (s : _root_.Go.ChangeSpec) : _root_.Go.OpenSpec := { _root_.Go.OpenSpec.ofChange s with cond := some uptoSmall }

/-- 'colloquylaw06.AttrMerges', WHERE WHAT IT READS IS OF BULK AT MOST 1048576: true; the input reads as it did. -/
def attrMergesUptoRow : OpenClaim := { program := "ytolfjfepehmfgaa", sum := "ba24d07ccb6b959eb8f1652685d5f8ad3cbba8bc860eb72a6aae491a80f86bae", func := "colloquy/colloquylaw06.AttrMerges", spec := "attrMerges", apart := false, narrowed := true }
def AttrMergesUptoSaid : Prop := attrMergesUptoRow.holds Try.pinned (OpenSpec.upto attrMergesSpec)

/-- 'colloquylaw06.AttrWaits', WHERE WHAT IT READS IS OF BULK AT MOST 1048576: true; the input reads as it did. -/
def attrWaitsUptoRow : OpenClaim := { program := "ytolfjfepehmfgaa", sum := "ba24d07ccb6b959eb8f1652685d5f8ad3cbba8bc860eb72a6aae491a80f86bae", func := "colloquy/colloquylaw06.AttrWaits", spec := "attrWaits", unfollowed := true, recurses := true, apart := false, narrowed := true }
def AttrWaitsUptoSaid : Prop := attrWaitsUptoRow.holds Try.pinned (OpenSpec.upto attrWaitsSpec)

/-- 'colloquylaw06.AttrOrder', WHERE WHAT IT READS IS OF BULK AT MOST 1048576: true; the input reads as it did. -/
def attrOrderUptoRow : OpenClaim := { program := "ytolfjfepehmfgaa", sum := "ba24d07ccb6b959eb8f1652685d5f8ad3cbba8bc860eb72a6aae491a80f86bae", func := "colloquy/colloquylaw06.AttrOrder", spec := "attrOrder", unfollowed := true, recurses := true, apart := false, narrowed := true }
def AttrOrderUptoSaid : Prop := attrOrderUptoRow.holds Try.pinned (OpenSpec.upto attrOrderSpec)

/-- 'colloquylaw06.AttrTells', WHERE WHAT IT READS IS OF BULK AT MOST 1048576: true; the input reads as it did. -/
def attrTellsUptoRow : OpenClaim := { program := "ytolfjfepehmfgaa", sum := "ba24d07ccb6b959eb8f1652685d5f8ad3cbba8bc860eb72a6aae491a80f86bae", func := "colloquy/colloquylaw06.AttrTells", spec := "attrTells", unfollowed := true, recurses := true, apart := false, narrowed := true }
def AttrTellsUptoSaid : Prop := attrTellsUptoRow.holds Try.pinned (OpenSpec.upto attrTellsSpec)

/-- 'colloquylaw06.AttrJoins', WHERE WHAT IT READS IS OF BULK AT MOST 1048576: true; the input reads as it did. -/
def attrJoinsUptoRow : OpenClaim := { program := "ytolfjfepehmfgaa", sum := "ba24d07ccb6b959eb8f1652685d5f8ad3cbba8bc860eb72a6aae491a80f86bae", func := "colloquy/colloquylaw06.AttrJoins", spec := "attrJoins", unfollowed := true, recurses := true, apart := false, narrowed := true }
def AttrJoinsUptoSaid : Prop := attrJoinsUptoRow.holds Try.pinned (OpenSpec.upto attrJoinsSpec)

/-- 'colloquylaw06.AttrNone', WHERE WHAT IT READS IS OF BULK AT MOST 1048576: true; the input reads as it did. -/
def attrNoneUptoRow : OpenClaim := { program := "ytolfjfepehmfgaa", sum := "ba24d07ccb6b959eb8f1652685d5f8ad3cbba8bc860eb72a6aae491a80f86bae", func := "colloquy/colloquylaw06.AttrNone", spec := "attrNone", unfollowed := true, recurses := true, apart := false, narrowed := true }
def AttrNoneUptoSaid : Prop := attrNoneUptoRow.holds Try.pinned (OpenSpec.upto attrNoneSpec)

end Rows
end Go.Proofs.Ytolfjfepehmfgaa
