/-
  No cell of these rows narrows 'for every input' (looked for: loops, veiled, ifaces, maps, wideKeys, modest, calm, conditions, laid).
  DERIVED. THE GIVEN ROWS OF THIS SEAT. 5 by the template 'for every input the law returns true; each argument reads behind the call as it read before'; 0 by the template 'total and deterministic' (their statements: YtmhncankbgjmbaaTotals.lean).
  GIVEN WITH THE SEED: the statements are not yours to turn. If you find one false, say at which input.
  Laid BY PROGRAM, IN A SANDBOX (cutbox-rows.mjs): the forced cells as the released guide's own fill.sh prints them over the translation d11bf6f8e6072a26… (all of the seat's roots in one cut). By AI agents, Wed Nov 11 2026. No macro, syntax, notation, axiom, sorry.
-/
import Derived.Test.YtmhncankbgjmbaaChecked
import GoSem.Claim
import GoSem.ClaimJoined
import GoSem.ClaimMapViews
import Derived.JoinedTies
import Derived.KernelRfl
namespace Go.Proofs.Ytmhncankbgjmbaa
/- THE CELL 'sum', in the pinned program and in every row, IS THE sha256 OF THE DUMP (.gsa) THAT YtmhncankbgjmbaaProg.lean LOADS. Nothing in Lean hashes anything: it is a label: what it is worth is what the hold of that sum in a sandbox is worth. -/
noncomputable def Try.pinned : Pinned := { name := "ytmhncankbgjmbaa", sum := "d11bf6f8e6072a261e4b5fa793ce4b68eab02d9a56f4eae38c6912ff77a727a9", checked := Try.checked }
namespace Rows
def none {H : Type} : Left H := { results := [], args := [] }

/-- 'glazierlaw11.HeldBounds': WHATEVER THE INPUT: true; the input reads as it did. -/
def heldBoundsSpec : ChangeSpec := { name := "heldBounds", fn := fun _ => fun
  | [d1, d2] => { results := [.lit (.bool true)], args := [d1, d2] }
  | _ => none }
def heldBoundsRow : OpenClaim := { program := "ytmhncankbgjmbaa", sum := "d11bf6f8e6072a261e4b5fa793ce4b68eab02d9a56f4eae38c6912ff77a727a9", func := "glazier/glazierlaw11.HeldBounds", spec := "heldBounds", recurses := true, apart := false }
def HeldBoundsSaid : Prop := heldBoundsRow.holds Try.pinned (OpenSpec.ofChange heldBoundsSpec)

/-- ITS FALSE NEIGHBOUR: 'it returns false'. Refute it at one input. -/
def heldBoundsWrong : ChangeSpec := { name := "heldBounds", fn := fun _ => fun
  | [d1, d2] => { results := [.lit (.bool false)], args := [d1, d2] }
  | _ => none }
def HeldBoundsWrongFalsely : Prop := heldBoundsRow.holds Try.pinned (OpenSpec.ofChange heldBoundsWrong)

/-- 'glazierlaw11.HeldTurns': WHATEVER THE INPUT: true; the input reads as it did. -/
def heldTurnsSpec : ChangeSpec := { name := "heldTurns", fn := fun _ => fun
  | [d1, d2, d3] => { results := [.lit (.bool true)], args := [d1, d2, d3] }
  | _ => none }
def heldTurnsRow : OpenClaim := { program := "ytmhncankbgjmbaa", sum := "d11bf6f8e6072a261e4b5fa793ce4b68eab02d9a56f4eae38c6912ff77a727a9", func := "glazier/glazierlaw11.HeldTurns", spec := "heldTurns", recurses := true, apart := false }
def HeldTurnsSaid : Prop := heldTurnsRow.holds Try.pinned (OpenSpec.ofChange heldTurnsSpec)

/-- ITS FALSE NEIGHBOUR: 'it returns false'. Refute it at one input. -/
def heldTurnsWrong : ChangeSpec := { name := "heldTurns", fn := fun _ => fun
  | [d1, d2, d3] => { results := [.lit (.bool false)], args := [d1, d2, d3] }
  | _ => none }
def HeldTurnsWrongFalsely : Prop := heldTurnsRow.holds Try.pinned (OpenSpec.ofChange heldTurnsWrong)

/-- 'glazierlaw11.HeldParts': WHATEVER THE INPUT: true; the input reads as it did. -/
def heldPartsSpec : ChangeSpec := { name := "heldParts", fn := fun _ => fun
  | [d] => { results := [.lit (.bool true)], args := [d] }
  | _ => none }
def heldPartsRow : OpenClaim := { program := "ytmhncankbgjmbaa", sum := "d11bf6f8e6072a261e4b5fa793ce4b68eab02d9a56f4eae38c6912ff77a727a9", func := "glazier/glazierlaw11.HeldParts", spec := "heldParts", recurses := true, apart := false }
def HeldPartsSaid : Prop := heldPartsRow.holds Try.pinned (OpenSpec.ofChange heldPartsSpec)

/-- ITS FALSE NEIGHBOUR: 'it returns false'. Refute it at one input. -/
def heldPartsWrong : ChangeSpec := { name := "heldParts", fn := fun _ => fun
  | [d] => { results := [.lit (.bool false)], args := [d] }
  | _ => none }
def HeldPartsWrongFalsely : Prop := heldPartsRow.holds Try.pinned (OpenSpec.ofChange heldPartsWrong)

/-- 'glazierlaw11.HeldPlays': WHATEVER THE INPUT: true; the input reads as it did. -/
def heldPlaysSpec : ChangeSpec := { name := "heldPlays", fn := fun _ => fun
  | [d] => { results := [.lit (.bool true)], args := [d] }
  | _ => none }
def heldPlaysRow : OpenClaim := { program := "ytmhncankbgjmbaa", sum := "d11bf6f8e6072a261e4b5fa793ce4b68eab02d9a56f4eae38c6912ff77a727a9", func := "glazier/glazierlaw11.HeldPlays", spec := "heldPlays", recurses := true, apart := false }
def HeldPlaysSaid : Prop := heldPlaysRow.holds Try.pinned (OpenSpec.ofChange heldPlaysSpec)

/-- ITS FALSE NEIGHBOUR: 'it returns false'. Refute it at one input. -/
def heldPlaysWrong : ChangeSpec := { name := "heldPlays", fn := fun _ => fun
  | [d] => { results := [.lit (.bool false)], args := [d] }
  | _ => none }
def HeldPlaysWrongFalsely : Prop := heldPlaysRow.holds Try.pinned (OpenSpec.ofChange heldPlaysWrong)

/-- 'glazierlaw11.HeldBack': WHATEVER THE INPUT: true; the input reads as it did. -/
def heldBackSpec : ChangeSpec := { name := "heldBack", fn := fun _ => fun
  | [d1, d2, d3] => { results := [.lit (.bool true)], args := [d1, d2, d3] }
  | _ => none }
def heldBackRow : OpenClaim := { program := "ytmhncankbgjmbaa", sum := "d11bf6f8e6072a261e4b5fa793ce4b68eab02d9a56f4eae38c6912ff77a727a9", func := "glazier/glazierlaw11.HeldBack", spec := "heldBack", recurses := true, apart := false }
def HeldBackSaid : Prop := heldBackRow.holds Try.pinned (OpenSpec.ofChange heldBackSpec)

/-- ITS FALSE NEIGHBOUR: 'it returns false'. Refute it at one input. -/
def heldBackWrong : ChangeSpec := { name := "heldBack", fn := fun _ => fun
  | [d1, d2, d3] => { results := [.lit (.bool false)], args := [d1, d2, d3] }
  | _ => none }
def HeldBackWrongFalsely : Prop := heldBackRow.holds Try.pinned (OpenSpec.ofChange heldBackWrong)

/- THE SECOND FORM. 'bulk': how many values and letters a reading holds, each counted each time it is reached (what is shared counts as often as it is met; a slice's spare places count too). A statement '..UptoSaid' is the law's where the arguments, and the package variables that the reading takes, are together of bulk at most 1048576: NARROWER than '..Said'. Prove '..Said' where nothing that the law and all that it calls make is longer than what came in: it says more and counts as full. Else prove '..UptoSaid'. A law counts once. -/
mutual
def uptoBulk {H : Type} : DataW H → Nat
  | .lit (.string bytes) => bytes.length + 1
  | .lit _ => 1
  | .nil => 1
  | .ptr d => uptoBulk d + 1
  | .slice elems spare => uptoBulkAll elems + uptoBulkAll spare + 1
  | .agg parts => uptoBulkAll parts + 1
  | .iface _ d => uptoBulk d + 1
  | .map entries => uptoBulkEntries entries + 1
  | .held _ => 1
def uptoBulkAll {H : Type} : List (DataW H) → Nat
  | [] => 0
  | d :: r => uptoBulk d + uptoBulkAll r
def uptoBulkEntries {H : Type} : List (Lit × DataW H) → Nat
  | [] => 0
  | x :: r => uptoBulkEntry x + uptoBulkEntries r
def uptoBulkEntry {H : Type} : Lit × DataW H → Nat
  | (.string bytes, d) => bytes.length + uptoBulk d + 1
  | (_, d) => uptoBulk d + 1
 end
def uptoSmall : (H : Type) → List (DataW H) → Bool := fun _ ds => decide (uptoBulkAll ds ≤ 1048576)
def OpenSpec.upto (s : _root_.Go.ChangeSpec) : _root_.Go.OpenSpec := { _root_.Go.OpenSpec.ofChange s with cond := some uptoSmall }

/-- 'glazierlaw11.HeldBounds', WHERE WHAT IT READS IS OF BULK AT MOST 1048576: true; the input reads as it did. -/
def heldBoundsUptoRow : OpenClaim := { program := "ytmhncankbgjmbaa", sum := "d11bf6f8e6072a261e4b5fa793ce4b68eab02d9a56f4eae38c6912ff77a727a9", func := "glazier/glazierlaw11.HeldBounds", spec := "heldBounds", recurses := true, apart := false, narrowed := true }
def HeldBoundsUptoSaid : Prop := heldBoundsUptoRow.holds Try.pinned (OpenSpec.upto heldBoundsSpec)

/-- 'glazierlaw11.HeldTurns', WHERE WHAT IT READS IS OF BULK AT MOST 1048576: true; the input reads as it did. -/
def heldTurnsUptoRow : OpenClaim := { program := "ytmhncankbgjmbaa", sum := "d11bf6f8e6072a261e4b5fa793ce4b68eab02d9a56f4eae38c6912ff77a727a9", func := "glazier/glazierlaw11.HeldTurns", spec := "heldTurns", recurses := true, apart := false, narrowed := true }
def HeldTurnsUptoSaid : Prop := heldTurnsUptoRow.holds Try.pinned (OpenSpec.upto heldTurnsSpec)

/-- 'glazierlaw11.HeldParts', WHERE WHAT IT READS IS OF BULK AT MOST 1048576: true; the input reads as it did. -/
def heldPartsUptoRow : OpenClaim := { program := "ytmhncankbgjmbaa", sum := "d11bf6f8e6072a261e4b5fa793ce4b68eab02d9a56f4eae38c6912ff77a727a9", func := "glazier/glazierlaw11.HeldParts", spec := "heldParts", recurses := true, apart := false, narrowed := true }
def HeldPartsUptoSaid : Prop := heldPartsUptoRow.holds Try.pinned (OpenSpec.upto heldPartsSpec)

/-- 'glazierlaw11.HeldPlays', WHERE WHAT IT READS IS OF BULK AT MOST 1048576: true; the input reads as it did. -/
def heldPlaysUptoRow : OpenClaim := { program := "ytmhncankbgjmbaa", sum := "d11bf6f8e6072a261e4b5fa793ce4b68eab02d9a56f4eae38c6912ff77a727a9", func := "glazier/glazierlaw11.HeldPlays", spec := "heldPlays", recurses := true, apart := false, narrowed := true }
def HeldPlaysUptoSaid : Prop := heldPlaysUptoRow.holds Try.pinned (OpenSpec.upto heldPlaysSpec)

/-- 'glazierlaw11.HeldBack', WHERE WHAT IT READS IS OF BULK AT MOST 1048576: true; the input reads as it did. -/
def heldBackUptoRow : OpenClaim := { program := "ytmhncankbgjmbaa", sum := "d11bf6f8e6072a261e4b5fa793ce4b68eab02d9a56f4eae38c6912ff77a727a9", func := "glazier/glazierlaw11.HeldBack", spec := "heldBack", recurses := true, apart := false, narrowed := true }
def HeldBackUptoSaid : Prop := heldBackUptoRow.holds Try.pinned (OpenSpec.upto heldBackSpec)

end Rows
end Go.Proofs.Ytmhncankbgjmbaa
