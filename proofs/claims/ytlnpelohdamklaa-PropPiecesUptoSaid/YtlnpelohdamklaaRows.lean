/-
  No cell of these rows narrows 'for every input' (looked for: loops, veiled, ifaces, maps, wideKeys, modest, calm, conditions, laid).
  DERIVED. THE GIVEN ROWS OF THIS SEAT. 6 by the template 'for every input the law returns true; each argument reads behind the call as it read before'; 0 by the template 'total and deterministic' (their statements: YtlnpelohdamklaaTotals.lean).
  GIVEN WITH THE SEED: the statements are not yours to turn. If you find one false, say at which input.
  Laid BY PROGRAM, IN A SANDBOX (cutbox-rows.mjs): the forced cells as the released guide's own fill.sh prints them over the translation dae6776e1c5ef695… (all of the seat's roots in one cut). By AI agents, Wed Nov 11 2026. No macro, syntax, notation, axiom, sorry.
-/
import Derived.Test.YtlnpelohdamklaaChecked
import GoSem.Claim
import GoSem.ClaimJoined
import GoSem.ClaimMapViews
import Derived.JoinedTies
import Derived.KernelRfl
namespace Go.Proofs.Ytlnpelohdamklaa
/- THE CELL 'sum', in the pinned program and in every row, IS THE sha256 OF THE DUMP (.gsa) THAT YtlnpelohdamklaaProg.lean LOADS. Nothing in Lean hashes anything: it is a label: what it is worth is what the hold of that sum in a sandbox is worth. -/
noncomputable def Try.pinned : Pinned := { name := "ytlnpelohdamklaa", sum := "dae6776e1c5ef6956e8fcd2c5261bd22da9b530df70400491161c249274a80af", checked := Try.checked }
namespace Rows
def none {H : Type} : Left H := { results := [], args := [] }

/-- 'glazierlaw10.PropJoins': WHATEVER THE INPUT: true; the input reads as it did. -/
def propJoinsSpec : ChangeSpec := { name := "propJoins", fn := fun _ => fun
  | [d1, d2] => { results := [.lit (.bool true)], args := [d1, d2] }
  | _ => none }
def propJoinsRow : OpenClaim := { program := "ytlnpelohdamklaa", sum := "dae6776e1c5ef6956e8fcd2c5261bd22da9b530df70400491161c249274a80af", func := "glazier/glazierlaw10.PropJoins", spec := "propJoins", unfollowed := true, recurses := true, apart := false }
def PropJoinsSaid : Prop := propJoinsRow.holds Try.pinned (OpenSpec.ofChange propJoinsSpec)

/-- ITS FALSE NEIGHBOUR: 'it returns false'. Refute it at one input. -/
def propJoinsWrong : ChangeSpec := { name := "propJoins", fn := fun _ => fun
  | [d1, d2] => { results := [.lit (.bool false)], args := [d1, d2] }
  | _ => none }
def PropJoinsWrongFalsely : Prop := propJoinsRow.holds Try.pinned (OpenSpec.ofChange propJoinsWrong)

/-- 'glazierlaw10.PropOthers': WHATEVER THE INPUT: true; the input reads as it did. -/
def propOthersSpec : ChangeSpec := { name := "propOthers", fn := fun _ => fun
  | [d1, d2, d3] => { results := [.lit (.bool true)], args := [d1, d2, d3] }
  | _ => none }
def propOthersRow : OpenClaim := { program := "ytlnpelohdamklaa", sum := "dae6776e1c5ef6956e8fcd2c5261bd22da9b530df70400491161c249274a80af", func := "glazier/glazierlaw10.PropOthers", spec := "propOthers", unfollowed := true, recurses := true, apart := false }
def PropOthersSaid : Prop := propOthersRow.holds Try.pinned (OpenSpec.ofChange propOthersSpec)

/-- ITS FALSE NEIGHBOUR: 'it returns false'. Refute it at one input. -/
def propOthersWrong : ChangeSpec := { name := "propOthers", fn := fun _ => fun
  | [d1, d2, d3] => { results := [.lit (.bool false)], args := [d1, d2, d3] }
  | _ => none }
def PropOthersWrongFalsely : Prop := propOthersRow.holds Try.pinned (OpenSpec.ofChange propOthersWrong)

/-- 'glazierlaw10.PropFull': WHATEVER THE INPUT: true; the input reads as it did. -/
def propFullSpec : ChangeSpec := { name := "propFull", fn := fun _ => fun
  | [d1, d2] => { results := [.lit (.bool true)], args := [d1, d2] }
  | _ => none }
def propFullRow : OpenClaim := { program := "ytlnpelohdamklaa", sum := "dae6776e1c5ef6956e8fcd2c5261bd22da9b530df70400491161c249274a80af", func := "glazier/glazierlaw10.PropFull", spec := "propFull", unfollowed := true, recurses := true, apart := false }
def PropFullSaid : Prop := propFullRow.holds Try.pinned (OpenSpec.ofChange propFullSpec)

/-- ITS FALSE NEIGHBOUR: 'it returns false'. Refute it at one input. -/
def propFullWrong : ChangeSpec := { name := "propFull", fn := fun _ => fun
  | [d1, d2] => { results := [.lit (.bool false)], args := [d1, d2] }
  | _ => none }
def PropFullWrongFalsely : Prop := propFullRow.holds Try.pinned (OpenSpec.ofChange propFullWrong)

/-- 'glazierlaw10.PropPlays': WHATEVER THE INPUT: true; the input reads as it did. -/
def propPlaysSpec : ChangeSpec := { name := "propPlays", fn := fun _ => fun
  | [d] => { results := [.lit (.bool true)], args := [d] }
  | _ => none }
def propPlaysRow : OpenClaim := { program := "ytlnpelohdamklaa", sum := "dae6776e1c5ef6956e8fcd2c5261bd22da9b530df70400491161c249274a80af", func := "glazier/glazierlaw10.PropPlays", spec := "propPlays", unfollowed := true, recurses := true, apart := false }
def PropPlaysSaid : Prop := propPlaysRow.holds Try.pinned (OpenSpec.ofChange propPlaysSpec)

/-- ITS FALSE NEIGHBOUR: 'it returns false'. Refute it at one input. -/
def propPlaysWrong : ChangeSpec := { name := "propPlays", fn := fun _ => fun
  | [d] => { results := [.lit (.bool false)], args := [d] }
  | _ => none }
def PropPlaysWrongFalsely : Prop := propPlaysRow.holds Try.pinned (OpenSpec.ofChange propPlaysWrong)

/-- 'glazierlaw10.PropStays': WHATEVER THE INPUT: true; the input reads as it did. -/
def propStaysSpec : ChangeSpec := { name := "propStays", fn := fun _ => fun
  | [d1, d2] => { results := [.lit (.bool true)], args := [d1, d2] }
  | _ => none }
def propStaysRow : OpenClaim := { program := "ytlnpelohdamklaa", sum := "dae6776e1c5ef6956e8fcd2c5261bd22da9b530df70400491161c249274a80af", func := "glazier/glazierlaw10.PropStays", spec := "propStays", unfollowed := true, recurses := true, apart := false }
def PropStaysSaid : Prop := propStaysRow.holds Try.pinned (OpenSpec.ofChange propStaysSpec)

/-- ITS FALSE NEIGHBOUR: 'it returns false'. Refute it at one input. -/
def propStaysWrong : ChangeSpec := { name := "propStays", fn := fun _ => fun
  | [d1, d2] => { results := [.lit (.bool false)], args := [d1, d2] }
  | _ => none }
def PropStaysWrongFalsely : Prop := propStaysRow.holds Try.pinned (OpenSpec.ofChange propStaysWrong)

/-- 'glazierlaw10.PropPieces': WHATEVER THE INPUT: true; the input reads as it did. -/
def propPiecesSpec : ChangeSpec := { name := "propPieces", fn := fun _ => fun
  | [d1, d2, d3] => { results := [.lit (.bool true)], args := [d1, d2, d3] }
  | _ => none }
def propPiecesRow : OpenClaim := { program := "ytlnpelohdamklaa", sum := "dae6776e1c5ef6956e8fcd2c5261bd22da9b530df70400491161c249274a80af", func := "glazier/glazierlaw10.PropPieces", spec := "propPieces", unfollowed := true, recurses := true, apart := false }
def PropPiecesSaid : Prop := propPiecesRow.holds Try.pinned (OpenSpec.ofChange propPiecesSpec)

/-- ITS FALSE NEIGHBOUR: 'it returns false'. Refute it at one input. -/
def propPiecesWrong : ChangeSpec := { name := "propPieces", fn := fun _ => fun
  | [d1, d2, d3] => { results := [.lit (.bool false)], args := [d1, d2, d3] }
  | _ => none }
def PropPiecesWrongFalsely : Prop := propPiecesRow.holds Try.pinned (OpenSpec.ofChange propPiecesWrong)

/- THE SECOND FORM. 'bulk': how many values and letters a reading holds, each counted each time it is reached (what is shared counts as often as it is met; a slice's spare places count too). A statement '..UptoSaid' is the law's where the arguments, and the package variables that the reading takes, are together of bulk at most 1048576: NARROWER than '..Said'. Prove '..Said' where nothing that the law and all that it calls make is longer than what came in: it says more and counts as full. Else prove '..UptoSaid'. A law counts once. -/
mutual
def uptoBulk {H : Type} : DataW H → Nat
  | .lit (.string bytes) => bytes.length + 1
  | .lit _ => 1
  | .nil => 1
  | .ptr d => uptoBulk d + 1
  | .slice elems spare => uptoBulkAll elems + uptoBulkAll spare + 1
  | .agg parts => uptoBulkAll parts + 1
  | .iface _ d => uptoBulk d + 1
  | .map entries => uptoBulkEntries entries + 1
  | .held _ => 1
def uptoBulkAll {H : Type} : List (DataW H) → Nat
  | [] => 0
  | d :: r => uptoBulk d + uptoBulkAll r
def uptoBulkEntries {H : Type} : List (Lit × DataW H) → Nat
  | [] => 0
  | x :: r => uptoBulkEntry x + uptoBulkEntries r
def uptoBulkEntry {H : Type} : Lit × DataW H → Nat
  | (.string bytes, d) => bytes.length + uptoBulk d + 1
  | (_, d) => uptoBulk d + 1
 end
def uptoSmall : (H : Type) → List (DataW H) → Bool := fun _ ds => decide (uptoBulkAll ds ≤ 1048576)
def OpenSpec.upto (s : _root_.Go.ChangeSpec) : _root_.Go.OpenSpec := { _root_.Go.OpenSpec.ofChange s with cond := some uptoSmall }

/-- 'glazierlaw10.PropJoins', WHERE WHAT IT READS IS OF BULK AT MOST 1048576: true; the input reads as it did. -/
def propJoinsUptoRow : OpenClaim := { program := "ytlnpelohdamklaa", sum := "dae6776e1c5ef6956e8fcd2c5261bd22da9b530df70400491161c249274a80af", func := "glazier/glazierlaw10.PropJoins", spec := "propJoins", unfollowed := true, recurses := true, apart := false, narrowed := true }
def PropJoinsUptoSaid : Prop := propJoinsUptoRow.holds Try.pinned (OpenSpec.upto propJoinsSpec)

/-- 'glazierlaw10.PropOthers', WHERE WHAT IT READS IS OF BULK AT MOST 1048576: true; the input reads as it did. -/
def propOthersUptoRow : OpenClaim := { program := "ytlnpelohdamklaa", sum := "dae6776e1c5ef6956e8fcd2c5261bd22da9b530df70400491161c249274a80af", func := "glazier/glazierlaw10.PropOthers", spec := "propOthers", unfollowed := true, recurses := true, apart := false, narrowed := true }
def PropOthersUptoSaid : Prop := propOthersUptoRow.holds Try.pinned (OpenSpec.upto propOthersSpec)

/-- 'glazierlaw10.PropFull', WHERE WHAT IT READS IS OF BULK AT MOST 1048576: true; the input reads as it did. -/
def propFullUptoRow : OpenClaim := { program := "ytlnpelohdamklaa", sum := "dae6776e1c5ef6956e8fcd2c5261bd22da9b530df70400491161c249274a80af", func := "glazier/glazierlaw10.PropFull", spec := "propFull", unfollowed := true, recurses := true, apart := false, narrowed := true }
def PropFullUptoSaid : Prop := propFullUptoRow.holds Try.pinned (OpenSpec.upto propFullSpec)

/-- 'glazierlaw10.PropPlays', WHERE WHAT IT READS IS OF BULK AT MOST 1048576: true; the input reads as it did. -/
def propPlaysUptoRow : OpenClaim := { program := "ytlnpelohdamklaa", sum := "dae6776e1c5ef6956e8fcd2c5261bd22da9b530df70400491161c249274a80af", func := "glazier/glazierlaw10.PropPlays", spec := "propPlays", unfollowed := true, recurses := true, apart := false, narrowed := true }
def PropPlaysUptoSaid : Prop := propPlaysUptoRow.holds Try.pinned (OpenSpec.upto propPlaysSpec)

/-- 'glazierlaw10.PropStays', WHERE WHAT IT READS IS OF BULK AT MOST 1048576: true; the input reads as it did. -/
def propStaysUptoRow : OpenClaim := { program := "ytlnpelohdamklaa", sum := "dae6776e1c5ef6956e8fcd2c5261bd22da9b530df70400491161c249274a80af", func := "glazier/glazierlaw10.PropStays", spec := "propStays", unfollowed := true, recurses := true, apart := false, narrowed := true }
def PropStaysUptoSaid : Prop := propStaysUptoRow.holds Try.pinned (OpenSpec.upto propStaysSpec)

/-- 'glazierlaw10.PropPieces', WHERE WHAT IT READS IS OF BULK AT MOST 1048576: true; the input reads as it did. -/
def propPiecesUptoRow : OpenClaim := { program := "ytlnpelohdamklaa", sum := "dae6776e1c5ef6956e8fcd2c5261bd22da9b530df70400491161c249274a80af", func := "glazier/glazierlaw10.PropPieces", spec := "propPieces", unfollowed := true, recurses := true, apart := false, narrowed := true }
def PropPiecesUptoSaid : Prop := propPiecesUptoRow.holds Try.pinned (OpenSpec.upto propPiecesSpec)

end Rows
end Go.Proofs.Ytlnpelohdamklaa
