/-
  No cell of these rows narrows 'for every input' (looked for: loops, veiled, ifaces, maps, wideKeys, modest, calm, conditions, laid).
  DERIVED. THE GIVEN ROWS OF THIS SEAT. 9 by the template 'for every input the law returns true; each argument reads behind the call as it read before'; 0 by the template 'total and deterministic' (their statements: YtlobedghenflfaaTotals.lean).
  GIVEN WITH THE SEED: the statements are not yours to turn. If you find one false, say at which input.
  Laid BY PROGRAM, IN A SANDBOX (cutbox-rows.mjs): the forced cells as the released guide's own fill.sh prints them over the translation eb57ed2a30cb5714… (all of the seat's roots in one cut). By AI agents, Wed Nov 11 2026. No macro, syntax, notation, axiom, sorry.
-/
import Derived.Test.YtlobedghenflfaaChecked
import GoSem.Claim
import GoSem.ClaimJoined
import GoSem.ClaimMapViews
import Derived.JoinedTies
import Derived.KernelRfl
namespace Go.Proofs.Ytlobedghenflfaa
/- THE CELL 'sum', in the pinned program and in every row, IS THE sha256 OF THE DUMP (.gsa) THAT YtlobedghenflfaaProg.lean LOADS. Nothing in Lean hashes anything: it is a label: what it is worth is what the hold of that sum in a sandbox is worth. -/
noncomputable def Try.pinned : Pinned := { name := "ytlobedghenflfaa", sum := "eb57ed2a30cb57141734da5a9757034f5d3494f5632ee527621583a51ec2a2c3", checked := Try.checked }
namespace Rows
def none {H : Type} : Left H := { results := [], args := [] }

/-- 'colloquylaw13.ScoreOrders': WHATEVER THE INPUT: true; the input reads as it did. -/
def scoreOrdersSpec : ChangeSpec := { name := "scoreOrders", fn := fun _ => fun
  | [d1, d2, d3] => { results := [.lit (.bool true)], args := [d1, d2, d3] }
  | _ => none }
def scoreOrdersRow : OpenClaim := { program := "ytlobedghenflfaa", sum := "eb57ed2a30cb57141734da5a9757034f5d3494f5632ee527621583a51ec2a2c3", func := "colloquy/colloquylaw13.ScoreOrders", spec := "scoreOrders", inPlace := ["math.Float64bits", "math.Float64frombits", "math.archFloor", "math.archTrunc"], unfollowed := true, recurses := true, apart := false }
def ScoreOrdersSaid : Prop := scoreOrdersRow.holds Try.pinned (OpenSpec.ofChange scoreOrdersSpec)

/-- ITS FALSE NEIGHBOUR: 'it returns false'. Refute it at one input. -/
def scoreOrdersWrong : ChangeSpec := { name := "scoreOrders", fn := fun _ => fun
  | [d1, d2, d3] => { results := [.lit (.bool false)], args := [d1, d2, d3] }
  | _ => none }
def ScoreOrdersWrongFalsely : Prop := scoreOrdersRow.holds Try.pinned (OpenSpec.ofChange scoreOrdersWrong)

/-- 'colloquylaw13.ScoreSorts': WHATEVER THE INPUT: true; the input reads as it did. -/
def scoreSortsSpec : ChangeSpec := { name := "scoreSorts", fn := fun _ => fun
  | [d1, d2] => { results := [.lit (.bool true)], args := [d1, d2] }
  | _ => none }
def scoreSortsRow : OpenClaim := { program := "ytlobedghenflfaa", sum := "eb57ed2a30cb57141734da5a9757034f5d3494f5632ee527621583a51ec2a2c3", func := "colloquy/colloquylaw13.ScoreSorts", spec := "scoreSorts", inPlace := ["math.Float64bits", "math.Float64frombits", "math.archFloor", "math.archTrunc"], unfollowed := true, recurses := true, apart := false }
def ScoreSortsSaid : Prop := scoreSortsRow.holds Try.pinned (OpenSpec.ofChange scoreSortsSpec)

/-- ITS FALSE NEIGHBOUR: 'it returns false'. Refute it at one input. -/
def scoreSortsWrong : ChangeSpec := { name := "scoreSorts", fn := fun _ => fun
  | [d1, d2] => { results := [.lit (.bool false)], args := [d1, d2] }
  | _ => none }
def ScoreSortsWrongFalsely : Prop := scoreSortsRow.holds Try.pinned (OpenSpec.ofChange scoreSortsWrong)

/-- 'colloquylaw13.ScoreFloors': WHATEVER THE INPUT: true; the input reads as it did. -/
def scoreFloorsSpec : ChangeSpec := { name := "scoreFloors", fn := fun _ => fun
  | [d1, d2] => { results := [.lit (.bool true)], args := [d1, d2] }
  | _ => none }
def scoreFloorsRow : OpenClaim := { program := "ytlobedghenflfaa", sum := "eb57ed2a30cb57141734da5a9757034f5d3494f5632ee527621583a51ec2a2c3", func := "colloquy/colloquylaw13.ScoreFloors", spec := "scoreFloors", inPlace := ["math.Float64bits", "math.Float64frombits", "math.archFloor", "math.archTrunc"], apart := false }
def ScoreFloorsSaid : Prop := scoreFloorsRow.holds Try.pinned (OpenSpec.ofChange scoreFloorsSpec)

/-- ITS FALSE NEIGHBOUR: 'it returns false'. Refute it at one input. -/
def scoreFloorsWrong : ChangeSpec := { name := "scoreFloors", fn := fun _ => fun
  | [d1, d2] => { results := [.lit (.bool false)], args := [d1, d2] }
  | _ => none }
def ScoreFloorsWrongFalsely : Prop := scoreFloorsRow.holds Try.pinned (OpenSpec.ofChange scoreFloorsWrong)

/-- 'colloquylaw13.ScoreSigns': WHATEVER THE INPUT: true; the input reads as it did. -/
def scoreSignsSpec : ChangeSpec := { name := "scoreSigns", fn := fun _ => fun
  | [d1, d2] => { results := [.lit (.bool true)], args := [d1, d2] }
  | _ => none }
def scoreSignsRow : OpenClaim := { program := "ytlobedghenflfaa", sum := "eb57ed2a30cb57141734da5a9757034f5d3494f5632ee527621583a51ec2a2c3", func := "colloquy/colloquylaw13.ScoreSigns", spec := "scoreSigns", inPlace := ["math.Float64bits", "math.Float64frombits", "math.archFloor", "math.archTrunc"], apart := false }
def ScoreSignsSaid : Prop := scoreSignsRow.holds Try.pinned (OpenSpec.ofChange scoreSignsSpec)

/-- ITS FALSE NEIGHBOUR: 'it returns false'. Refute it at one input. -/
def scoreSignsWrong : ChangeSpec := { name := "scoreSigns", fn := fun _ => fun
  | [d1, d2] => { results := [.lit (.bool false)], args := [d1, d2] }
  | _ => none }
def ScoreSignsWrongFalsely : Prop := scoreSignsRow.holds Try.pinned (OpenSpec.ofChange scoreSignsWrong)

/-- 'colloquylaw13.ScoreDivides': WHATEVER THE INPUT: true; the input reads as it did. -/
def scoreDividesSpec : ChangeSpec := { name := "scoreDivides", fn := fun _ => fun
  | [d1, d2] => { results := [.lit (.bool true)], args := [d1, d2] }
  | _ => none }
def scoreDividesRow : OpenClaim := { program := "ytlobedghenflfaa", sum := "eb57ed2a30cb57141734da5a9757034f5d3494f5632ee527621583a51ec2a2c3", func := "colloquy/colloquylaw13.ScoreDivides", spec := "scoreDivides", inPlace := ["math.Float64bits", "math.Float64frombits", "math.archFloor", "math.archTrunc"], apart := false }
def ScoreDividesSaid : Prop := scoreDividesRow.holds Try.pinned (OpenSpec.ofChange scoreDividesSpec)

/-- ITS FALSE NEIGHBOUR: 'it returns false'. Refute it at one input. -/
def scoreDividesWrong : ChangeSpec := { name := "scoreDivides", fn := fun _ => fun
  | [d1, d2] => { results := [.lit (.bool false)], args := [d1, d2] }
  | _ => none }
def ScoreDividesWrongFalsely : Prop := scoreDividesRow.holds Try.pinned (OpenSpec.ofChange scoreDividesWrong)

/-- 'colloquylaw13.ScoreTotal': WHATEVER THE INPUT: true; the input reads as it did. -/
def scoreTotalSpec : ChangeSpec := { name := "scoreTotal", fn := fun _ => fun
  | [d1, d2, d3] => { results := [.lit (.bool true)], args := [d1, d2, d3] }
  | _ => none }
def scoreTotalRow : OpenClaim := { program := "ytlobedghenflfaa", sum := "eb57ed2a30cb57141734da5a9757034f5d3494f5632ee527621583a51ec2a2c3", func := "colloquy/colloquylaw13.ScoreTotal", spec := "scoreTotal", inPlace := ["math.Float64bits", "math.Float64frombits", "math.archFloor", "math.archTrunc"], apart := false }
def ScoreTotalSaid : Prop := scoreTotalRow.holds Try.pinned (OpenSpec.ofChange scoreTotalSpec)

/-- ITS FALSE NEIGHBOUR: 'it returns false'. Refute it at one input. -/
def scoreTotalWrong : ChangeSpec := { name := "scoreTotal", fn := fun _ => fun
  | [d1, d2, d3] => { results := [.lit (.bool false)], args := [d1, d2, d3] }
  | _ => none }
def ScoreTotalWrongFalsely : Prop := scoreTotalRow.holds Try.pinned (OpenSpec.ofChange scoreTotalWrong)

/-- 'colloquylaw13.ScoreRises': WHATEVER THE INPUT: true; the input reads as it did. -/
def scoreRisesSpec : ChangeSpec := { name := "scoreRises", fn := fun _ => fun
  | [d1, d2, d3, d4] => { results := [.lit (.bool true)], args := [d1, d2, d3, d4] }
  | _ => none }
def scoreRisesRow : OpenClaim := { program := "ytlobedghenflfaa", sum := "eb57ed2a30cb57141734da5a9757034f5d3494f5632ee527621583a51ec2a2c3", func := "colloquy/colloquylaw13.ScoreRises", spec := "scoreRises", inPlace := ["math.Float64bits", "math.Float64frombits", "math.archFloor", "math.archTrunc"], apart := false }
def ScoreRisesSaid : Prop := scoreRisesRow.holds Try.pinned (OpenSpec.ofChange scoreRisesSpec)

/-- ITS FALSE NEIGHBOUR: 'it returns false'. Refute it at one input. -/
def scoreRisesWrong : ChangeSpec := { name := "scoreRises", fn := fun _ => fun
  | [d1, d2, d3, d4] => { results := [.lit (.bool false)], args := [d1, d2, d3, d4] }
  | _ => none }
def ScoreRisesWrongFalsely : Prop := scoreRisesRow.holds Try.pinned (OpenSpec.ofChange scoreRisesWrong)

/-- 'colloquylaw13.ScoreEdges': WHATEVER THE INPUT: true; the input reads as it did. -/
def scoreEdgesSpec : ChangeSpec := { name := "scoreEdges", fn := fun _ => fun
  | [d1, d2, d3] => { results := [.lit (.bool true)], args := [d1, d2, d3] }
  | _ => none }
def scoreEdgesRow : OpenClaim := { program := "ytlobedghenflfaa", sum := "eb57ed2a30cb57141734da5a9757034f5d3494f5632ee527621583a51ec2a2c3", func := "colloquy/colloquylaw13.ScoreEdges", spec := "scoreEdges", inPlace := ["math.Float64bits", "math.Float64frombits", "math.archFloor", "math.archTrunc"], apart := false }
def ScoreEdgesSaid : Prop := scoreEdgesRow.holds Try.pinned (OpenSpec.ofChange scoreEdgesSpec)

/-- ITS FALSE NEIGHBOUR: 'it returns false'. Refute it at one input. -/
def scoreEdgesWrong : ChangeSpec := { name := "scoreEdges", fn := fun _ => fun
  | [d1, d2, d3] => { results := [.lit (.bool false)], args := [d1, d2, d3] }
  | _ => none }
def ScoreEdgesWrongFalsely : Prop := scoreEdgesRow.holds Try.pinned (OpenSpec.ofChange scoreEdgesWrong)

/-- 'colloquylaw13.ScoreWhole': WHATEVER THE INPUT: true; the input reads as it did. -/
def scoreWholeSpec : ChangeSpec := { name := "scoreWhole", fn := fun _ => fun
  | [d1, d2] => { results := [.lit (.bool true)], args := [d1, d2] }
  | _ => none }
def scoreWholeRow : OpenClaim := { program := "ytlobedghenflfaa", sum := "eb57ed2a30cb57141734da5a9757034f5d3494f5632ee527621583a51ec2a2c3", func := "colloquy/colloquylaw13.ScoreWhole", spec := "scoreWhole", inPlace := ["math.Float64bits", "math.Float64frombits", "math.archFloor", "math.archTrunc"], apart := false }
def ScoreWholeSaid : Prop := scoreWholeRow.holds Try.pinned (OpenSpec.ofChange scoreWholeSpec)

/-- ITS FALSE NEIGHBOUR: 'it returns false'. Refute it at one input. -/
def scoreWholeWrong : ChangeSpec := { name := "scoreWhole", fn := fun _ => fun
  | [d1, d2] => { results := [.lit (.bool false)], args := [d1, d2] }
  | _ => none }
def ScoreWholeWrongFalsely : Prop := scoreWholeRow.holds Try.pinned (OpenSpec.ofChange scoreWholeWrong)

/- THE SECOND FORM. 'bulk': how many values and letters a reading holds, each counted each time it is reached (what is shared counts as often as it is met; a slice's spare places count too). A statement '..UptoSaid' is the law's where the arguments, and the package variables that the reading takes, are together of bulk at most 1048576: NARROWER than '..Said'. Prove '..Said' where nothing that the law and all that it calls make is longer than what came in: it says more and counts as full. Else prove '..UptoSaid'. A law counts once. -/
mutual
def uptoBulk {H : Type} : DataW H → Nat
  | .lit (.string bytes) => bytes.length + 1
  | .lit _ => 1
  | .nil => 1
  | .ptr d => uptoBulk d + 1
  | .slice elems spare => uptoBulkAll elems + uptoBulkAll spare + 1
  | .agg parts => uptoBulkAll parts + 1
  | .iface _ d => uptoBulk d + 1
  | .map entries => uptoBulkEntries entries + 1
  | .held _ => 1
def uptoBulkAll {H : Type} : List (DataW H) → Nat
  | [] => 0
  | d :: r => uptoBulk d + uptoBulkAll r
def uptoBulkEntries {H : Type} : List (Lit × DataW H) → Nat
  | [] => 0
  | x :: r => uptoBulkEntry x + uptoBulkEntries r
def uptoBulkEntry {H : Type} : Lit × DataW H → Nat
  | (.string bytes, d) => bytes.length + uptoBulk d + 1
  | (_, d) => uptoBulk d + 1
 end
def uptoSmall : (H : Type) → List (DataW H) → Bool := fun _ ds => decide (uptoBulkAll ds ≤ 1048576)
def OpenSpec.upto (s : _root_.Go.ChangeSpec) : _root_.Go.OpenSpec := { _root_.Go.OpenSpec.ofChange s with cond := some uptoSmall }

/-- 'colloquylaw13.ScoreOrders', WHERE WHAT IT READS IS OF BULK AT MOST 1048576: true; the input reads as it did. -/
def scoreOrdersUptoRow : OpenClaim := { program := "ytlobedghenflfaa", sum := "eb57ed2a30cb57141734da5a9757034f5d3494f5632ee527621583a51ec2a2c3", func := "colloquy/colloquylaw13.ScoreOrders", spec := "scoreOrders", inPlace := ["math.Float64bits", "math.Float64frombits", "math.archFloor", "math.archTrunc"], unfollowed := true, recurses := true, apart := false, narrowed := true }
def ScoreOrdersUptoSaid : Prop := scoreOrdersUptoRow.holds Try.pinned (OpenSpec.upto scoreOrdersSpec)

/-- 'colloquylaw13.ScoreSorts', WHERE WHAT IT READS IS OF BULK AT MOST 1048576: true; the input reads as it did. -/
def scoreSortsUptoRow : OpenClaim := { program := "ytlobedghenflfaa", sum := "eb57ed2a30cb57141734da5a9757034f5d3494f5632ee527621583a51ec2a2c3", func := "colloquy/colloquylaw13.ScoreSorts", spec := "scoreSorts", inPlace := ["math.Float64bits", "math.Float64frombits", "math.archFloor", "math.archTrunc"], unfollowed := true, recurses := true, apart := false, narrowed := true }
def ScoreSortsUptoSaid : Prop := scoreSortsUptoRow.holds Try.pinned (OpenSpec.upto scoreSortsSpec)

/-- 'colloquylaw13.ScoreFloors', WHERE WHAT IT READS IS OF BULK AT MOST 1048576: true; the input reads as it did. -/
def scoreFloorsUptoRow : OpenClaim := { program := "ytlobedghenflfaa", sum := "eb57ed2a30cb57141734da5a9757034f5d3494f5632ee527621583a51ec2a2c3", func := "colloquy/colloquylaw13.ScoreFloors", spec := "scoreFloors", inPlace := ["math.Float64bits", "math.Float64frombits", "math.archFloor", "math.archTrunc"], apart := false, narrowed := true }
def ScoreFloorsUptoSaid : Prop := scoreFloorsUptoRow.holds Try.pinned (OpenSpec.upto scoreFloorsSpec)

/-- 'colloquylaw13.ScoreSigns', WHERE WHAT IT READS IS OF BULK AT MOST 1048576: true; the input reads as it did. -/
def scoreSignsUptoRow : OpenClaim := { program := "ytlobedghenflfaa", sum := "eb57ed2a30cb57141734da5a9757034f5d3494f5632ee527621583a51ec2a2c3", func := "colloquy/colloquylaw13.ScoreSigns", spec := "scoreSigns", inPlace := ["math.Float64bits", "math.Float64frombits", "math.archFloor", "math.archTrunc"], apart := false, narrowed := true }
def ScoreSignsUptoSaid : Prop := scoreSignsUptoRow.holds Try.pinned (OpenSpec.upto scoreSignsSpec)

/-- 'colloquylaw13.ScoreDivides', WHERE WHAT IT READS IS OF BULK AT MOST 1048576: true; the input reads as it did. -/
def scoreDividesUptoRow : OpenClaim := { program := "ytlobedghenflfaa", sum := "eb57ed2a30cb57141734da5a9757034f5d3494f5632ee527621583a51ec2a2c3", func := "colloquy/colloquylaw13.ScoreDivides", spec := "scoreDivides", inPlace := ["math.Float64bits", "math.Float64frombits", "math.archFloor", "math.archTrunc"], apart := false, narrowed := true }
def ScoreDividesUptoSaid : Prop := scoreDividesUptoRow.holds Try.pinned (OpenSpec.upto scoreDividesSpec)

/-- 'colloquylaw13.ScoreTotal', WHERE WHAT IT READS IS OF BULK AT MOST 1048576: true; the input reads as it did. -/
def scoreTotalUptoRow : OpenClaim := { program := "ytlobedghenflfaa", sum := "eb57ed2a30cb57141734da5a9757034f5d3494f5632ee527621583a51ec2a2c3", func := "colloquy/colloquylaw13.ScoreTotal", spec := "scoreTotal", inPlace := ["math.Float64bits", "math.Float64frombits", "math.archFloor", "math.archTrunc"], apart := false, narrowed := true }
def ScoreTotalUptoSaid : Prop := scoreTotalUptoRow.holds Try.pinned (OpenSpec.upto scoreTotalSpec)

/-- 'colloquylaw13.ScoreRises', WHERE WHAT IT READS IS OF BULK AT MOST 1048576: true; the input reads as it did. -/
def scoreRisesUptoRow : OpenClaim := { program := "ytlobedghenflfaa", sum := "eb57ed2a30cb57141734da5a9757034f5d3494f5632ee527621583a51ec2a2c3", func := "colloquy/colloquylaw13.ScoreRises", spec := "scoreRises", inPlace := ["math.Float64bits", "math.Float64frombits", "math.archFloor", "math.archTrunc"], apart := false, narrowed := true }
def ScoreRisesUptoSaid : Prop := scoreRisesUptoRow.holds Try.pinned (OpenSpec.upto scoreRisesSpec)

/-- 'colloquylaw13.ScoreEdges', WHERE WHAT IT READS IS OF BULK AT MOST 1048576: true; the input reads as it did. -/
def scoreEdgesUptoRow : OpenClaim := { program := "ytlobedghenflfaa", sum := "eb57ed2a30cb57141734da5a9757034f5d3494f5632ee527621583a51ec2a2c3", func := "colloquy/colloquylaw13.ScoreEdges", spec := "scoreEdges", inPlace := ["math.Float64bits", "math.Float64frombits", "math.archFloor", "math.archTrunc"], apart := false, narrowed := true }
def ScoreEdgesUptoSaid : Prop := scoreEdgesUptoRow.holds Try.pinned (OpenSpec.upto scoreEdgesSpec)

/-- 'colloquylaw13.ScoreWhole', WHERE WHAT IT READS IS OF BULK AT MOST 1048576: true; the input reads as it did. -/
def scoreWholeUptoRow : OpenClaim := { program := "ytlobedghenflfaa", sum := "eb57ed2a30cb57141734da5a9757034f5d3494f5632ee527621583a51ec2a2c3", func := "colloquy/colloquylaw13.ScoreWhole", spec := "scoreWhole", inPlace := ["math.Float64bits", "math.Float64frombits", "math.archFloor", "math.archTrunc"], apart := false, narrowed := true }
def ScoreWholeUptoSaid : Prop := scoreWholeUptoRow.holds Try.pinned (OpenSpec.upto scoreWholeSpec)

end Rows
end Go.Proofs.Ytlobedghenflfaa
