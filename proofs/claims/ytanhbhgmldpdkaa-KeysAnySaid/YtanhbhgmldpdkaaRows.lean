/-
  No cell of these rows narrows 'for every input' (looked for: loops, veiled, ifaces, maps, wideKeys, modest, calm, conditions, laid).
  DERIVED. THE GIVEN ROWS OF THIS SEAT. 6 by the template 'for every input the law returns true; each argument reads behind the call as it read before'; 0 by the template 'total and deterministic' (their statements: YtanhbhgmldpdkaaTotals.lean).
  GIVEN WITH THE SEED: the statements are not yours to turn. If you find one false, say at which input.
  Laid BY PROGRAM, IN A SANDBOX (cutbox-rows.mjs): the forced cells as the released guide's own fill.sh prints them over the translation d9d34615e94bc474… (all of the seat's roots in one cut). By AI agents, Wed Nov 11 2026. No macro, syntax, notation, axiom, sorry.
-/
import Derived.Test.YtanhbhgmldpdkaaChecked
import GoSem.Claim
import GoSem.ClaimJoined
import GoSem.ClaimMapViews
import Derived.JoinedTies
import Derived.KernelRfl
namespace Go.Proofs.Ytanhbhgmldpdkaa
/- THE CELL 'sum', in the pinned program and in every row, IS THE sha256 OF THE DUMP (.gsa) THAT YtanhbhgmldpdkaaProg.lean LOADS. Nothing in Lean hashes anything: it is a label: what it is worth is what the hold of that sum in a sandbox is worth. -/
noncomputable def Try.pinned : Pinned := { name := "ytanhbhgmldpdkaa", sum := "d9d34615e94bc474ecad2f6a5b480f107f4f8931dfbbfb69c0e940791fabe579", checked := Try.checked }
namespace Rows
def none {H : Type} : Left H := { results := [], args := [] }

/-- 'colloquylaw05.KeysOf': WHATEVER THE INPUT: true; the input reads as it did. -/
def keysOfSpec : ChangeSpec := { name := "keysOf", fn := fun _ => fun
  | [d] => { results := [.lit (.bool true)], args := [d] }
  | _ => none }
def keysOfRow : OpenClaim := { program := "ytanhbhgmldpdkaa", sum := "d9d34615e94bc474ecad2f6a5b480f107f4f8931dfbbfb69c0e940791fabe579", func := "colloquy/colloquylaw05.KeysOf", spec := "keysOf", unfollowed := true, recurses := true, apart := false }
def KeysOfSaid : Prop := keysOfRow.holds Try.pinned (OpenSpec.ofChange keysOfSpec)

/-- ITS FALSE NEIGHBOUR: 'it returns false'. Refute it at one input. -/
def keysOfWrong : ChangeSpec := { name := "keysOf", fn := fun _ => fun
  | [d] => { results := [.lit (.bool false)], args := [d] }
  | _ => none }
def KeysOfWrongFalsely : Prop := keysOfRow.holds Try.pinned (OpenSpec.ofChange keysOfWrong)

/-- 'colloquylaw05.KeysBoth': WHATEVER THE INPUT: true; the input reads as it did. -/
def keysBothSpec : ChangeSpec := { name := "keysBoth", fn := fun _ => fun
  | [d1, d2, d3, d4] => { results := [.lit (.bool true)], args := [d1, d2, d3, d4] }
  | _ => none }
def keysBothRow : OpenClaim := { program := "ytanhbhgmldpdkaa", sum := "d9d34615e94bc474ecad2f6a5b480f107f4f8931dfbbfb69c0e940791fabe579", func := "colloquy/colloquylaw05.KeysBoth", spec := "keysBoth", unfollowed := true, recurses := true, apart := false }
def KeysBothSaid : Prop := keysBothRow.holds Try.pinned (OpenSpec.ofChange keysBothSpec)

/-- ITS FALSE NEIGHBOUR: 'it returns false'. Refute it at one input. -/
def keysBothWrong : ChangeSpec := { name := "keysBoth", fn := fun _ => fun
  | [d1, d2, d3, d4] => { results := [.lit (.bool false)], args := [d1, d2, d3, d4] }
  | _ => none }
def KeysBothWrongFalsely : Prop := keysBothRow.holds Try.pinned (OpenSpec.ofChange keysBothWrong)

/-- 'colloquylaw05.KeysApart': WHATEVER THE INPUT: true; the input reads as it did. -/
def keysApartSpec : ChangeSpec := { name := "keysApart", fn := fun _ => fun
  | [d1, d2] => { results := [.lit (.bool true)], args := [d1, d2] }
  | _ => none }
def keysApartRow : OpenClaim := { program := "ytanhbhgmldpdkaa", sum := "d9d34615e94bc474ecad2f6a5b480f107f4f8931dfbbfb69c0e940791fabe579", func := "colloquy/colloquylaw05.KeysApart", spec := "keysApart", unfollowed := true, recurses := true, apart := false }
def KeysApartSaid : Prop := keysApartRow.holds Try.pinned (OpenSpec.ofChange keysApartSpec)

/-- ITS FALSE NEIGHBOUR: 'it returns false'. Refute it at one input. -/
def keysApartWrong : ChangeSpec := { name := "keysApart", fn := fun _ => fun
  | [d1, d2] => { results := [.lit (.bool false)], args := [d1, d2] }
  | _ => none }
def KeysApartWrongFalsely : Prop := keysApartRow.holds Try.pinned (OpenSpec.ofChange keysApartWrong)

/-- 'colloquylaw05.KeysRead': WHATEVER THE INPUT: true; the input reads as it did. -/
def keysReadSpec : ChangeSpec := { name := "keysRead", fn := fun _ => fun
  | [d1, d2] => { results := [.lit (.bool true)], args := [d1, d2] }
  | _ => none }
def keysReadRow : OpenClaim := { program := "ytanhbhgmldpdkaa", sum := "d9d34615e94bc474ecad2f6a5b480f107f4f8931dfbbfb69c0e940791fabe579", func := "colloquy/colloquylaw05.KeysRead", spec := "keysRead", unfollowed := true, recurses := true, apart := false }
def KeysReadSaid : Prop := keysReadRow.holds Try.pinned (OpenSpec.ofChange keysReadSpec)

/-- ITS FALSE NEIGHBOUR: 'it returns false'. Refute it at one input. -/
def keysReadWrong : ChangeSpec := { name := "keysRead", fn := fun _ => fun
  | [d1, d2] => { results := [.lit (.bool false)], args := [d1, d2] }
  | _ => none }
def KeysReadWrongFalsely : Prop := keysReadRow.holds Try.pinned (OpenSpec.ofChange keysReadWrong)

/-- 'colloquylaw05.KeysTell': WHATEVER THE INPUT: true; the input reads as it did. -/
def keysTellSpec : ChangeSpec := { name := "keysTell", fn := fun _ => fun
  | [d1, d2, d3] => { results := [.lit (.bool true)], args := [d1, d2, d3] }
  | _ => none }
def keysTellRow : OpenClaim := { program := "ytanhbhgmldpdkaa", sum := "d9d34615e94bc474ecad2f6a5b480f107f4f8931dfbbfb69c0e940791fabe579", func := "colloquy/colloquylaw05.KeysTell", spec := "keysTell", unfollowed := true, recurses := true, apart := false }
def KeysTellSaid : Prop := keysTellRow.holds Try.pinned (OpenSpec.ofChange keysTellSpec)

/-- ITS FALSE NEIGHBOUR: 'it returns false'. Refute it at one input. -/
def keysTellWrong : ChangeSpec := { name := "keysTell", fn := fun _ => fun
  | [d1, d2, d3] => { results := [.lit (.bool false)], args := [d1, d2, d3] }
  | _ => none }
def KeysTellWrongFalsely : Prop := keysTellRow.holds Try.pinned (OpenSpec.ofChange keysTellWrong)

/-- 'colloquylaw05.KeysAny': WHATEVER THE INPUT: true; the input reads as it did. -/
def keysAnySpec : ChangeSpec := { name := "keysAny", fn := fun _ => fun
  | [d1, d2, d3] => { results := [.lit (.bool true)], args := [d1, d2, d3] }
  | _ => none }
def keysAnyRow : OpenClaim := { program := "ytanhbhgmldpdkaa", sum := "d9d34615e94bc474ecad2f6a5b480f107f4f8931dfbbfb69c0e940791fabe579", func := "colloquy/colloquylaw05.KeysAny", spec := "keysAny", unfollowed := true, recurses := true, apart := false }
def KeysAnySaid : Prop := keysAnyRow.holds Try.pinned (OpenSpec.ofChange keysAnySpec)

/-- ITS FALSE NEIGHBOUR: 'it returns false'. Refute it at one input. -/
def keysAnyWrong : ChangeSpec := { name := "keysAny", fn := fun _ => fun
  | [d1, d2, d3] => { results := [.lit (.bool false)], args := [d1, d2, d3] }
  | _ => none }
def KeysAnyWrongFalsely : Prop := keysAnyRow.holds Try.pinned (OpenSpec.ofChange keysAnyWrong)

/- THE SECOND FORM. 'bulk': how many values and letters a reading holds, each counted each time it is reached (what is shared counts as often as it is met; a slice's spare places count too). A statement '..UptoSaid' is the law's where the arguments, and the package variables that the reading takes, are together of bulk at most 1048576: NARROWER than '..Said'. Prove '..Said' where nothing that the law and all that it calls make is longer than what came in: it says more and counts as full. Else prove '..UptoSaid'. A law counts once. -/
mutual
def uptoBulk {H : Type} : DataW H → Nat
  | .lit (.string bytes) => bytes.length + 1
  | .lit _ => 1
  | .nil => 1
  | .ptr d => uptoBulk d + 1
  | .slice elems spare => uptoBulkAll elems + uptoBulkAll spare + 1
  | .agg parts => uptoBulkAll parts + 1
  | .iface _ d => uptoBulk d + 1
  | .map entries => uptoBulkEntries entries + 1
  | .held _ => 1
def uptoBulkAll {H : Type} : List (DataW H) → Nat
  | [] => 0
  | d :: r => uptoBulk d + uptoBulkAll r
def uptoBulkEntries {H : Type} : List (Lit × DataW H) → Nat
  | [] => 0
  | x :: r => uptoBulkEntry x + uptoBulkEntries r
def uptoBulkEntry {H : Type} : Lit × DataW H → Nat
  | (.string bytes, d) => bytes.length + uptoBulk d + 1
  | (_, d) => uptoBulk d + 1
 end
def uptoSmall : (H : Type) → List (DataW H) → Bool := fun _ ds => decide (uptoBulkAll ds ≤ 1048576)
def OpenSpec.upto (s : _root_.Go.ChangeSpec) : _root_.Go.OpenSpec := { _root_.Go.OpenSpec.ofChange s with cond := some uptoSmall }

/-- 'colloquylaw05.KeysOf', WHERE WHAT IT READS IS OF BULK AT MOST 1048576: true; the input reads as it did. -/
def keysOfUptoRow : OpenClaim := { program := "ytanhbhgmldpdkaa", sum := "d9d34615e94bc474ecad2f6a5b480f107f4f8931dfbbfb69c0e940791fabe579", func := "colloquy/colloquylaw05.KeysOf", spec := "keysOf", unfollowed := true, recurses := true, apart := false, narrowed := true }
def KeysOfUptoSaid : Prop := keysOfUptoRow.holds Try.pinned (OpenSpec.upto keysOfSpec)

/-- 'colloquylaw05.KeysBoth', WHERE WHAT IT READS IS OF BULK AT MOST 1048576: true; the input reads as it did. -/
def keysBothUptoRow : OpenClaim := { program := "ytanhbhgmldpdkaa", sum := "d9d34615e94bc474ecad2f6a5b480f107f4f8931dfbbfb69c0e940791fabe579", func := "colloquy/colloquylaw05.KeysBoth", spec := "keysBoth", unfollowed := true, recurses := true, apart := false, narrowed := true }
def KeysBothUptoSaid : Prop := keysBothUptoRow.holds Try.pinned (OpenSpec.upto keysBothSpec)

/-- 'colloquylaw05.KeysApart', WHERE WHAT IT READS IS OF BULK AT MOST 1048576: true; the input reads as it did. -/
def keysApartUptoRow : OpenClaim := { program := "ytanhbhgmldpdkaa", sum := "d9d34615e94bc474ecad2f6a5b480f107f4f8931dfbbfb69c0e940791fabe579", func := "colloquy/colloquylaw05.KeysApart", spec := "keysApart", unfollowed := true, recurses := true, apart := false, narrowed := true }
def KeysApartUptoSaid : Prop := keysApartUptoRow.holds Try.pinned (OpenSpec.upto keysApartSpec)

/-- 'colloquylaw05.KeysRead', WHERE WHAT IT READS IS OF BULK AT MOST 1048576: true; the input reads as it did. -/
def keysReadUptoRow : OpenClaim := { program := "ytanhbhgmldpdkaa", sum := "d9d34615e94bc474ecad2f6a5b480f107f4f8931dfbbfb69c0e940791fabe579", func := "colloquy/colloquylaw05.KeysRead", spec := "keysRead", unfollowed := true, recurses := true, apart := false, narrowed := true }
def KeysReadUptoSaid : Prop := keysReadUptoRow.holds Try.pinned (OpenSpec.upto keysReadSpec)

/-- 'colloquylaw05.KeysTell', WHERE WHAT IT READS IS OF BULK AT MOST 1048576: true; the input reads as it did. -/
def keysTellUptoRow : OpenClaim := { program := "ytanhbhgmldpdkaa", sum := "d9d34615e94bc474ecad2f6a5b480f107f4f8931dfbbfb69c0e940791fabe579", func := "colloquy/colloquylaw05.KeysTell", spec := "keysTell", unfollowed := true, recurses := true, apart := false, narrowed := true }
def KeysTellUptoSaid : Prop := keysTellUptoRow.holds Try.pinned (OpenSpec.upto keysTellSpec)

/-- 'colloquylaw05.KeysAny', WHERE WHAT IT READS IS OF BULK AT MOST 1048576: true; the input reads as it did. -/
def keysAnyUptoRow : OpenClaim := { program := "ytanhbhgmldpdkaa", sum := "d9d34615e94bc474ecad2f6a5b480f107f4f8931dfbbfb69c0e940791fabe579", func := "colloquy/colloquylaw05.KeysAny", spec := "keysAny", unfollowed := true, recurses := true, apart := false, narrowed := true }
def KeysAnyUptoSaid : Prop := keysAnyUptoRow.holds Try.pinned (OpenSpec.upto keysAnySpec)

end Rows
end Go.Proofs.Ytanhbhgmldpdkaa
