/-
  No cell of these rows narrows 'for every input' (looked for: loops, veiled, ifaces, maps, wideKeys, modest, calm, conditions, laid).
  DERIVED. THE GIVEN ROWS OF THIS SEAT. 5 by the template 'for every input the law returns true; each argument reads behind the call as it read before'; 0 by the template 'total and deterministic' (their statements: YtkijkdifmoifaaaTotals.lean).
  GIVEN WITH THE SEED: the statements are not yours to turn. If you find one false, say at which input.
  Laid BY PROGRAM, IN A SANDBOX (cutbox-rows.mjs): the forced cells as the released guide's own fill.sh prints them over the translation b1d4b11d6226d0fb… (all of the seat's roots in one cut). By AI agents, Wed Nov 11 2026. No macro, syntax, notation, axiom, sorry.
-/
import Derived.Test.YtkijkdifmoifaaaChecked
import GoSem.Claim
import GoSem.ClaimJoined
import GoSem.ClaimMapViews
import Derived.JoinedTies
import Derived.KernelRfl
namespace Go.Proofs.Ytkijkdifmoifaaa
/- THE CELL 'sum', in the pinned program and in every row, IS THE sha256 OF THE DUMP (.gsa) THAT YtkijkdifmoifaaaProg.lean LOADS. Nothing in Lean hashes anything: it is a label: what it is worth is what the hold of that sum in a sandbox is worth. -/
noncomputable def Try.pinned : Pinned := { name := "ytkijkdifmoifaaa", sum := "b1d4b11d6226d0fbc19ca0557c083e494486ea9b47e7f8902503779bd7e05327", checked := Try.checked }
namespace Rows
def none {H : Type} : Left H := { results := [], args := [] }

/-- 'colloquylaw09.InstanceRises': WHATEVER THE INPUT: true; the input reads as it did. -/
def instanceRisesSpec : ChangeSpec := { name := "instanceRises", fn := fun _ => fun
  | [d] => { results := [.lit (.bool true)], args := [d] }
  | _ => none }
def instanceRisesRow : OpenClaim := { program := "ytkijkdifmoifaaa", sum := "b1d4b11d6226d0fbc19ca0557c083e494486ea9b47e7f8902503779bd7e05327", func := "colloquy/colloquylaw09.InstanceRises", spec := "instanceRises", unfollowed := true, recurses := true, apart := false }
def InstanceRisesSaid : Prop := instanceRisesRow.holds Try.pinned (OpenSpec.ofChange instanceRisesSpec)

/-- ITS FALSE NEIGHBOUR: 'it returns false'. Refute it at one input. -/
def instanceRisesWrong : ChangeSpec := { name := "instanceRises", fn := fun _ => fun
  | [d] => { results := [.lit (.bool false)], args := [d] }
  | _ => none }
def InstanceRisesWrongFalsely : Prop := instanceRisesRow.holds Try.pinned (OpenSpec.ofChange instanceRisesWrong)

/-- 'colloquylaw09.InstanceVotes': WHATEVER THE INPUT: true; the input reads as it did. -/
def instanceVotesSpec : ChangeSpec := { name := "instanceVotes", fn := fun _ => fun
  | [d1, d2, d3] => { results := [.lit (.bool true)], args := [d1, d2, d3] }
  | _ => none }
def instanceVotesRow : OpenClaim := { program := "ytkijkdifmoifaaa", sum := "b1d4b11d6226d0fbc19ca0557c083e494486ea9b47e7f8902503779bd7e05327", func := "colloquy/colloquylaw09.InstanceVotes", spec := "instanceVotes", unfollowed := true, recurses := true, apart := false }
def InstanceVotesSaid : Prop := instanceVotesRow.holds Try.pinned (OpenSpec.ofChange instanceVotesSpec)

/-- ITS FALSE NEIGHBOUR: 'it returns false'. Refute it at one input. -/
def instanceVotesWrong : ChangeSpec := { name := "instanceVotes", fn := fun _ => fun
  | [d1, d2, d3] => { results := [.lit (.bool false)], args := [d1, d2, d3] }
  | _ => none }
def InstanceVotesWrongFalsely : Prop := instanceVotesRow.holds Try.pinned (OpenSpec.ofChange instanceVotesWrong)

/-- 'colloquylaw09.InstanceLate': WHATEVER THE INPUT: true; the input reads as it did. -/
def instanceLateSpec : ChangeSpec := { name := "instanceLate", fn := fun _ => fun
  | [d1, d2] => { results := [.lit (.bool true)], args := [d1, d2] }
  | _ => none }
def instanceLateRow : OpenClaim := { program := "ytkijkdifmoifaaa", sum := "b1d4b11d6226d0fbc19ca0557c083e494486ea9b47e7f8902503779bd7e05327", func := "colloquy/colloquylaw09.InstanceLate", spec := "instanceLate", unfollowed := true, recurses := true, apart := false }
def InstanceLateSaid : Prop := instanceLateRow.holds Try.pinned (OpenSpec.ofChange instanceLateSpec)

/-- ITS FALSE NEIGHBOUR: 'it returns false'. Refute it at one input. -/
def instanceLateWrong : ChangeSpec := { name := "instanceLate", fn := fun _ => fun
  | [d1, d2] => { results := [.lit (.bool false)], args := [d1, d2] }
  | _ => none }
def InstanceLateWrongFalsely : Prop := instanceLateRow.holds Try.pinned (OpenSpec.ofChange instanceLateWrong)

/-- 'colloquylaw09.InstanceSteps': WHATEVER THE INPUT: true; the input reads as it did. -/
def instanceStepsSpec : ChangeSpec := { name := "instanceSteps", fn := fun _ => fun
  | [d1, d2, d3, d4] => { results := [.lit (.bool true)], args := [d1, d2, d3, d4] }
  | _ => none }
def instanceStepsRow : OpenClaim := { program := "ytkijkdifmoifaaa", sum := "b1d4b11d6226d0fbc19ca0557c083e494486ea9b47e7f8902503779bd7e05327", func := "colloquy/colloquylaw09.InstanceSteps", spec := "instanceSteps", unfollowed := true, recurses := true, apart := false }
def InstanceStepsSaid : Prop := instanceStepsRow.holds Try.pinned (OpenSpec.ofChange instanceStepsSpec)

/-- ITS FALSE NEIGHBOUR: 'it returns false'. Refute it at one input. -/
def instanceStepsWrong : ChangeSpec := { name := "instanceSteps", fn := fun _ => fun
  | [d1, d2, d3, d4] => { results := [.lit (.bool false)], args := [d1, d2, d3, d4] }
  | _ => none }
def InstanceStepsWrongFalsely : Prop := instanceStepsRow.holds Try.pinned (OpenSpec.ofChange instanceStepsWrong)

/-- 'colloquylaw09.InstanceMay': WHATEVER THE INPUT: true; the input reads as it did. -/
def instanceMaySpec : ChangeSpec := { name := "instanceMay", fn := fun _ => fun
  | [d1, d2, d3] => { results := [.lit (.bool true)], args := [d1, d2, d3] }
  | _ => none }
def instanceMayRow : OpenClaim := { program := "ytkijkdifmoifaaa", sum := "b1d4b11d6226d0fbc19ca0557c083e494486ea9b47e7f8902503779bd7e05327", func := "colloquy/colloquylaw09.InstanceMay", spec := "instanceMay", unfollowed := true, recurses := true, apart := false }
def InstanceMaySaid : Prop := instanceMayRow.holds Try.pinned (OpenSpec.ofChange instanceMaySpec)

/-- ITS FALSE NEIGHBOUR: 'it returns false'. Refute it at one input. -/
def instanceMayWrong : ChangeSpec := { name := "instanceMay", fn := fun _ => fun
  | [d1, d2, d3] => { results := [.lit (.bool false)], args := [d1, d2, d3] }
  | _ => none }
def InstanceMayWrongFalsely : Prop := instanceMayRow.holds Try.pinned (OpenSpec.ofChange instanceMayWrong)

/- THE SECOND FORM. 'bulk': how many values and letters a reading holds, each counted each time it is reached (what is shared counts as often as it is met; a slice's spare places count too). A statement '..UptoSaid' is the law's where the arguments, and the package variables that the reading takes, are together of bulk at most 1048576: NARROWER than '..Said'. Prove '..Said' where nothing that the law and all that it calls make is longer than what came in: it says more and counts as full. Else prove '..UptoSaid'. A law counts once. -/
mutual
def uptoBulk {H : Type} : DataW H → Nat
  | .lit (.string bytes) => bytes.length + 1
  | .lit _ => 1
  | .nil => 1
  | .ptr d => uptoBulk d + 1
  | .slice elems spare => uptoBulkAll elems + uptoBulkAll spare + 1
  | .agg parts => uptoBulkAll parts + 1
  | .iface _ d => uptoBulk d + 1
  | .map entries => uptoBulkEntries entries + 1
  | .held _ => 1
def uptoBulkAll {H : Type} : List (DataW H) → Nat
  | [] => 0
  | d :: r => uptoBulk d + uptoBulkAll r
def uptoBulkEntries {H : Type} : List (Lit × DataW H) → Nat
  | [] => 0
  | x :: r => uptoBulkEntry x + uptoBulkEntries r
def uptoBulkEntry {H : Type} : Lit × DataW H → Nat
  | (.string bytes, d) => bytes.length + uptoBulk d + 1
  | (_, d) => uptoBulk d + 1
 end
def uptoSmall : (H : Type) → List (DataW H) → Bool := fun _ ds => decide (uptoBulkAll ds ≤ 1048576)
def OpenSpec.upto (s : _root_.Go.ChangeSpec) : _root_.Go.OpenSpec := { _root_.Go.OpenSpec.ofChange s with cond := some uptoSmall }

/-- 'colloquylaw09.InstanceRises', WHERE WHAT IT READS IS OF BULK AT MOST 1048576: true; the input reads as it did. -/
def instanceRisesUptoRow : OpenClaim := { program := "ytkijkdifmoifaaa", sum := "b1d4b11d6226d0fbc19ca0557c083e494486ea9b47e7f8902503779bd7e05327", func := "colloquy/colloquylaw09.InstanceRises", spec := "instanceRises", unfollowed := true, recurses := true, apart := false, narrowed := true }
def InstanceRisesUptoSaid : Prop := instanceRisesUptoRow.holds Try.pinned (OpenSpec.upto instanceRisesSpec)

/-- 'colloquylaw09.InstanceVotes', WHERE WHAT IT READS IS OF BULK AT MOST 1048576: true; the input reads as it did. -/
def instanceVotesUptoRow : OpenClaim := { program := "ytkijkdifmoifaaa", sum := "b1d4b11d6226d0fbc19ca0557c083e494486ea9b47e7f8902503779bd7e05327", func := "colloquy/colloquylaw09.InstanceVotes", spec := "instanceVotes", unfollowed := true, recurses := true, apart := false, narrowed := true }
def InstanceVotesUptoSaid : Prop := instanceVotesUptoRow.holds Try.pinned (OpenSpec.upto instanceVotesSpec)

/-- 'colloquylaw09.InstanceLate', WHERE WHAT IT READS IS OF BULK AT MOST 1048576: true; the input reads as it did. -/
def instanceLateUptoRow : OpenClaim := { program := "ytkijkdifmoifaaa", sum := "b1d4b11d6226d0fbc19ca0557c083e494486ea9b47e7f8902503779bd7e05327", func := "colloquy/colloquylaw09.InstanceLate", spec := "instanceLate", unfollowed := true, recurses := true, apart := false, narrowed := true }
def InstanceLateUptoSaid : Prop := instanceLateUptoRow.holds Try.pinned (OpenSpec.upto instanceLateSpec)

/-- 'colloquylaw09.InstanceSteps', WHERE WHAT IT READS IS OF BULK AT MOST 1048576: true; the input reads as it did. -/
def instanceStepsUptoRow : OpenClaim := { program := "ytkijkdifmoifaaa", sum := "b1d4b11d6226d0fbc19ca0557c083e494486ea9b47e7f8902503779bd7e05327", func := "colloquy/colloquylaw09.InstanceSteps", spec := "instanceSteps", unfollowed := true, recurses := true, apart := false, narrowed := true }
def InstanceStepsUptoSaid : Prop := instanceStepsUptoRow.holds Try.pinned (OpenSpec.upto instanceStepsSpec)

/-- 'colloquylaw09.InstanceMay', WHERE WHAT IT READS IS OF BULK AT MOST 1048576: true; the input reads as it did. -/
def instanceMayUptoRow : OpenClaim := { program := "ytkijkdifmoifaaa", sum := "b1d4b11d6226d0fbc19ca0557c083e494486ea9b47e7f8902503779bd7e05327", func := "colloquy/colloquylaw09.InstanceMay", spec := "instanceMay", unfollowed := true, recurses := true, apart := false, narrowed := true }
def InstanceMayUptoSaid : Prop := instanceMayUptoRow.holds Try.pinned (OpenSpec.upto instanceMaySpec)

end Rows
end Go.Proofs.Ytkijkdifmoifaaa
