/-
  No cell of these rows narrows 'for every input' (looked for: loops, veiled, ifaces, maps, wideKeys, modest, calm, conditions, laid).
  DERIVED. THE GIVEN ROWS OF THIS SEAT. 6 by the template 'for every input the law returns true; each argument reads behind the call as it read before'; 0 by the template 'total and deterministic' (their statements: YtgenfbpaooeofaaTotals.lean).
  GIVEN WITH THE SEED: the statements are not yours to turn. If you find one false, say at which input.
  Laid BY PROGRAM, IN A SANDBOX (cutbox-rows.mjs): the forced cells as the released guide's own fill.sh prints them over the translation 1104ce7f83114566… (all of the seat's roots in one cut). By AI agents, Wed Nov 11 2026. No macro, syntax, notation, axiom, sorry.
-/
import Derived.Test.YtgenfbpaooeofaaChecked
import GoSem.Claim
import GoSem.ClaimJoined
import GoSem.ClaimMapViews
import Derived.JoinedTies
import Derived.KernelRfl
namespace Go.Proofs.Ytgenfbpaooeofaa
/- THE CELL 'sum', in the pinned program and in every row, IS THE sha256 OF THE DUMP (.gsa) THAT YtgenfbpaooeofaaProg.lean LOADS. Nothing in Lean hashes anything: it is a label: what it is worth is what the hold of that sum in a sandbox is worth. -/
noncomputable def Try.pinned : Pinned := { name := "ytgenfbpaooeofaa", sum := "1104ce7f83114566266090dcc0807018e5f86b62f6a1e4c3f650fa1fa71ddde4", checked := Try.checked }
namespace Rows
def none {H : Type} : Left H := { results := [], args := [] }

/-- 'colloquylaw08.IndexOf': WHATEVER THE INPUT: true; the input reads as it did. -/
def indexOfSpec : ChangeSpec := { name := "indexOf", fn := fun _ => fun
  | [d1, d2, d3, d4] => { results := [.lit (.bool true)], args := [d1, d2, d3, d4] }
  | _ => none }
def indexOfRow : OpenClaim := { program := "ytgenfbpaooeofaa", sum := "1104ce7f83114566266090dcc0807018e5f86b62f6a1e4c3f650fa1fa71ddde4", func := "colloquy/colloquylaw08.IndexOf", spec := "indexOf", plainKeys := false, apart := false }
def IndexOfSaid : Prop := indexOfRow.holds Try.pinned (OpenSpec.ofChange indexOfSpec)

/-- ITS FALSE NEIGHBOUR: 'it returns false'. Refute it at one input. -/
def indexOfWrong : ChangeSpec := { name := "indexOf", fn := fun _ => fun
  | [d1, d2, d3, d4] => { results := [.lit (.bool false)], args := [d1, d2, d3, d4] }
  | _ => none }
def IndexOfWrongFalsely : Prop := indexOfRow.holds Try.pinned (OpenSpec.ofChange indexOfWrong)

/-- 'colloquylaw08.IndexRuns': WHATEVER THE INPUT: true; the input reads as it did. -/
def indexRunsSpec : ChangeSpec := { name := "indexRuns", fn := fun _ => fun
  | [d1, d2, d3, d4] => { results := [.lit (.bool true)], args := [d1, d2, d3, d4] }
  | _ => none }
def indexRunsRow : OpenClaim := { program := "ytgenfbpaooeofaa", sum := "1104ce7f83114566266090dcc0807018e5f86b62f6a1e4c3f650fa1fa71ddde4", func := "colloquy/colloquylaw08.IndexRuns", spec := "indexRuns", plainKeys := false, apart := false }
def IndexRunsSaid : Prop := indexRunsRow.holds Try.pinned (OpenSpec.ofChange indexRunsSpec)

/-- ITS FALSE NEIGHBOUR: 'it returns false'. Refute it at one input. -/
def indexRunsWrong : ChangeSpec := { name := "indexRuns", fn := fun _ => fun
  | [d1, d2, d3, d4] => { results := [.lit (.bool false)], args := [d1, d2, d3, d4] }
  | _ => none }
def IndexRunsWrongFalsely : Prop := indexRunsRow.holds Try.pinned (OpenSpec.ofChange indexRunsWrong)

/-- 'colloquylaw08.IndexOwn': WHATEVER THE INPUT: true; the input reads as it did. -/
def indexOwnSpec : ChangeSpec := { name := "indexOwn", fn := fun _ => fun
  | [d1, d2, d3, d4, d5] => { results := [.lit (.bool true)], args := [d1, d2, d3, d4, d5] }
  | _ => none }
def indexOwnRow : OpenClaim := { program := "ytgenfbpaooeofaa", sum := "1104ce7f83114566266090dcc0807018e5f86b62f6a1e4c3f650fa1fa71ddde4", func := "colloquy/colloquylaw08.IndexOwn", spec := "indexOwn", unfollowed := true, recurses := true, plainKeys := false, apart := false }
def IndexOwnSaid : Prop := indexOwnRow.holds Try.pinned (OpenSpec.ofChange indexOwnSpec)

/-- ITS FALSE NEIGHBOUR: 'it returns false'. Refute it at one input. -/
def indexOwnWrong : ChangeSpec := { name := "indexOwn", fn := fun _ => fun
  | [d1, d2, d3, d4, d5] => { results := [.lit (.bool false)], args := [d1, d2, d3, d4, d5] }
  | _ => none }
def IndexOwnWrongFalsely : Prop := indexOwnRow.holds Try.pinned (OpenSpec.ofChange indexOwnWrong)

/-- 'colloquylaw08.IndexPlace': WHATEVER THE INPUT: true; the input reads as it did. -/
def indexPlaceSpec : ChangeSpec := { name := "indexPlace", fn := fun _ => fun
  | [d1, d2, d3, d4, d5, d6] => { results := [.lit (.bool true)], args := [d1, d2, d3, d4, d5, d6] }
  | _ => none }
def indexPlaceRow : OpenClaim := { program := "ytgenfbpaooeofaa", sum := "1104ce7f83114566266090dcc0807018e5f86b62f6a1e4c3f650fa1fa71ddde4", func := "colloquy/colloquylaw08.IndexPlace", spec := "indexPlace", unfollowed := true, recurses := true, plainKeys := false, apart := false }
def IndexPlaceSaid : Prop := indexPlaceRow.holds Try.pinned (OpenSpec.ofChange indexPlaceSpec)

/-- ITS FALSE NEIGHBOUR: 'it returns false'. Refute it at one input. -/
def indexPlaceWrong : ChangeSpec := { name := "indexPlace", fn := fun _ => fun
  | [d1, d2, d3, d4, d5, d6] => { results := [.lit (.bool false)], args := [d1, d2, d3, d4, d5, d6] }
  | _ => none }
def IndexPlaceWrongFalsely : Prop := indexPlaceRow.holds Try.pinned (OpenSpec.ofChange indexPlaceWrong)

/-- 'colloquylaw08.IndexWaits': WHATEVER THE INPUT: true; the input reads as it did. -/
def indexWaitsSpec : ChangeSpec := { name := "indexWaits", fn := fun _ => fun
  | [d1, d2, d3, d4, d5] => { results := [.lit (.bool true)], args := [d1, d2, d3, d4, d5] }
  | _ => none }
def indexWaitsRow : OpenClaim := { program := "ytgenfbpaooeofaa", sum := "1104ce7f83114566266090dcc0807018e5f86b62f6a1e4c3f650fa1fa71ddde4", func := "colloquy/colloquylaw08.IndexWaits", spec := "indexWaits", unfollowed := true, recurses := true, plainKeys := false, apart := false }
def IndexWaitsSaid : Prop := indexWaitsRow.holds Try.pinned (OpenSpec.ofChange indexWaitsSpec)

/-- ITS FALSE NEIGHBOUR: 'it returns false'. Refute it at one input. -/
def indexWaitsWrong : ChangeSpec := { name := "indexWaits", fn := fun _ => fun
  | [d1, d2, d3, d4, d5] => { results := [.lit (.bool false)], args := [d1, d2, d3, d4, d5] }
  | _ => none }
def IndexWaitsWrongFalsely : Prop := indexWaitsRow.holds Try.pinned (OpenSpec.ofChange indexWaitsWrong)

/-- 'colloquylaw08.IndexGrows': WHATEVER THE INPUT: true; the input reads as it did. -/
def indexGrowsSpec : ChangeSpec := { name := "indexGrows", fn := fun _ => fun
  | [d1, d2, d3, d4, d5] => { results := [.lit (.bool true)], args := [d1, d2, d3, d4, d5] }
  | _ => none }
def indexGrowsRow : OpenClaim := { program := "ytgenfbpaooeofaa", sum := "1104ce7f83114566266090dcc0807018e5f86b62f6a1e4c3f650fa1fa71ddde4", func := "colloquy/colloquylaw08.IndexGrows", spec := "indexGrows", unfollowed := true, recurses := true, plainKeys := false, apart := false }
def IndexGrowsSaid : Prop := indexGrowsRow.holds Try.pinned (OpenSpec.ofChange indexGrowsSpec)

/-- ITS FALSE NEIGHBOUR: 'it returns false'. Refute it at one input. -/
def indexGrowsWrong : ChangeSpec := { name := "indexGrows", fn := fun _ => fun
  | [d1, d2, d3, d4, d5] => { results := [.lit (.bool false)], args := [d1, d2, d3, d4, d5] }
  | _ => none }
def IndexGrowsWrongFalsely : Prop := indexGrowsRow.holds Try.pinned (OpenSpec.ofChange indexGrowsWrong)

/- THE SECOND FORM. 'bulk': how many values and letters a reading holds, each counted each time it is reached (what is shared counts as often as it is met; a slice's spare places count too). A statement '..UptoSaid' is the law's where the arguments, and the package variables that the reading takes, are together of bulk at most 1048576: NARROWER than '..Said'. Prove '..Said' where nothing that the law and all that it calls make is longer than what came in: it says more and counts as full. Else prove '..UptoSaid'. A law counts once. -/
mutual
def uptoBulk {H : Type} : DataW H → Nat
  | .lit (.string bytes) => bytes.length + 1
  | .lit _ => 1
  | .nil => 1
  | .ptr d => uptoBulk d + 1
  | .slice elems spare => uptoBulkAll elems + uptoBulkAll spare + 1
  | .agg parts => uptoBulkAll parts + 1
  | .iface _ d => uptoBulk d + 1
  | .map entries => uptoBulkEntries entries + 1
  | .held _ => 1
def uptoBulkAll {H : Type} : List (DataW H) → Nat
  | [] => 0
  | d :: r => uptoBulk d + uptoBulkAll r
def uptoBulkEntries {H : Type} : List (Lit × DataW H) → Nat
  | [] => 0
  | x :: r => uptoBulkEntry x + uptoBulkEntries r
def uptoBulkEntry {H : Type} : Lit × DataW H → Nat
  | (.string bytes, d) => bytes.length + uptoBulk d + 1
  | (_, d) => uptoBulk d + 1
 end
def uptoSmall : (H : Type) → List (DataW H) → Bool := fun _ ds => decide (uptoBulkAll ds ≤ 1048576)
def OpenSpec.upto (s : _root_.Go.ChangeSpec) : _root_.Go.OpenSpec := { _root_.Go.OpenSpec.ofChange s with cond := some uptoSmall }

/-- 'colloquylaw08.IndexOf', WHERE WHAT IT READS IS OF BULK AT MOST 1048576: true; the input reads as it did. -/
def indexOfUptoRow : OpenClaim := { program := "ytgenfbpaooeofaa", sum := "1104ce7f83114566266090dcc0807018e5f86b62f6a1e4c3f650fa1fa71ddde4", func := "colloquy/colloquylaw08.IndexOf", spec := "indexOf", plainKeys := false, apart := false, narrowed := true }
def IndexOfUptoSaid : Prop := indexOfUptoRow.holds Try.pinned (OpenSpec.upto indexOfSpec)

/-- 'colloquylaw08.IndexRuns', WHERE WHAT IT READS IS OF BULK AT MOST 1048576: true; the input reads as it did. -/
def indexRunsUptoRow : OpenClaim := { program := "ytgenfbpaooeofaa", sum := "1104ce7f83114566266090dcc0807018e5f86b62f6a1e4c3f650fa1fa71ddde4", func := "colloquy/colloquylaw08.IndexRuns", spec := "indexRuns", plainKeys := false, apart := false, narrowed := true }
def IndexRunsUptoSaid : Prop := indexRunsUptoRow.holds Try.pinned (OpenSpec.upto indexRunsSpec)

/-- 'colloquylaw08.IndexOwn', WHERE WHAT IT READS IS OF BULK AT MOST 1048576: true; the input reads as it did. -/
def indexOwnUptoRow : OpenClaim := { program := "ytgenfbpaooeofaa", sum := "1104ce7f83114566266090dcc0807018e5f86b62f6a1e4c3f650fa1fa71ddde4", func := "colloquy/colloquylaw08.IndexOwn", spec := "indexOwn", unfollowed := true, recurses := true, plainKeys := false, apart := false, narrowed := true }
def IndexOwnUptoSaid : Prop := indexOwnUptoRow.holds Try.pinned (OpenSpec.upto indexOwnSpec)

/-- 'colloquylaw08.IndexPlace', WHERE WHAT IT READS IS OF BULK AT MOST 1048576: true; the input reads as it did. -/
def indexPlaceUptoRow : OpenClaim := { program := "ytgenfbpaooeofaa", sum := "1104ce7f83114566266090dcc0807018e5f86b62f6a1e4c3f650fa1fa71ddde4", func := "colloquy/colloquylaw08.IndexPlace", spec := "indexPlace", unfollowed := true, recurses := true, plainKeys := false, apart := false, narrowed := true }
def IndexPlaceUptoSaid : Prop := indexPlaceUptoRow.holds Try.pinned (OpenSpec.upto indexPlaceSpec)

/-- 'colloquylaw08.IndexWaits', WHERE WHAT IT READS IS OF BULK AT MOST 1048576: true; the input reads as it did. -/
def indexWaitsUptoRow : OpenClaim := { program := "ytgenfbpaooeofaa", sum := "1104ce7f83114566266090dcc0807018e5f86b62f6a1e4c3f650fa1fa71ddde4", func := "colloquy/colloquylaw08.IndexWaits", spec := "indexWaits", unfollowed := true, recurses := true, plainKeys := false, apart := false, narrowed := true }
def IndexWaitsUptoSaid : Prop := indexWaitsUptoRow.holds Try.pinned (OpenSpec.upto indexWaitsSpec)

/-- 'colloquylaw08.IndexGrows', WHERE WHAT IT READS IS OF BULK AT MOST 1048576: true; the input reads as it did. -/
def indexGrowsUptoRow : OpenClaim := { program := "ytgenfbpaooeofaa", sum := "1104ce7f83114566266090dcc0807018e5f86b62f6a1e4c3f650fa1fa71ddde4", func := "colloquy/colloquylaw08.IndexGrows", spec := "indexGrows", unfollowed := true, recurses := true, plainKeys := false, apart := false, narrowed := true }
def IndexGrowsUptoSaid : Prop := indexGrowsUptoRow.holds Try.pinned (OpenSpec.upto indexGrowsSpec)

end Rows
end Go.Proofs.Ytgenfbpaooeofaa
