/-
  No cell of these rows narrows 'for every input' (looked for: loops, veiled, ifaces, maps, wideKeys, modest, calm, conditions, laid).
  DERIVED. THE GIVEN ROWS OF THIS SEAT. 5 by the template 'for every input the law returns true; each argument reads behind the call as it read before'; 0 by the template 'total and deterministic' (their statements: YtkpbbiknhhmfiaaTotals.lean).
  GIVEN WITH THE SEED: the statements are not yours to turn. If you find one false, say at which input.
  Laid BY PROGRAM, IN A SANDBOX (cutbox-rows.mjs): the forced cells as the released guide's own fill.sh prints them over the translation 96f2b7adcfa6c49f… (all of the seat's roots in one cut). By AI agents, Wed Nov 11 2026. No macro, syntax, notation, axiom, sorry.
-/
import Derived.Test.YtkpbbiknhhmfiaaChecked
import GoSem.Claim
import GoSem.ClaimJoined
import GoSem.ClaimMapViews
import Derived.JoinedTies
import Derived.KernelRfl
namespace Go.Proofs.Ytkpbbiknhhmfiaa
/- THE CELL 'sum', in the pinned program and in every row, IS THE sha256 OF THE DUMP (.gsa) THAT YtkpbbiknhhmfiaaProg.lean LOADS. Nothing in Lean hashes anything: it is a label: what it is worth is what the hold of that sum in a sandbox is worth. -/
noncomputable def Try.pinned : Pinned := { name := "ytkpbbiknhhmfiaa", sum := "96f2b7adcfa6c49f2c57de14581725663842b092fc139b2134d67dec8d5c9cad", checked := Try.checked }
namespace Rows
def none {H : Type} : Left H := { results := [], args := [] }

/-- 'glazierlaw43.SavesetRescues': WHATEVER THE INPUT: true; the input reads as it did. -/
def savesetRescuesSpec : ChangeSpec := { name := "savesetRescues", fn := fun _ => fun
  | [d1, d2] => { results := [.lit (.bool true)], args := [d1, d2] }
  | _ => none }
def savesetRescuesRow : OpenClaim := { program := "ytkpbbiknhhmfiaa", sum := "96f2b7adcfa6c49f2c57de14581725663842b092fc139b2134d67dec8d5c9cad", func := "glazier/glazierlaw43.SavesetRescues", spec := "savesetRescues", inPlace := ["maps.clone"], unfollowed := true, recurses := true, apart := false }
def SavesetRescuesSaid : Prop := savesetRescuesRow.holds Try.pinned (OpenSpec.ofChange savesetRescuesSpec)

/-- ITS FALSE NEIGHBOUR: 'it returns false'. Refute it at one input. -/
def savesetRescuesWrong : ChangeSpec := { name := "savesetRescues", fn := fun _ => fun
  | [d1, d2] => { results := [.lit (.bool false)], args := [d1, d2] }
  | _ => none }
def SavesetRescuesWrongFalsely : Prop := savesetRescuesRow.holds Try.pinned (OpenSpec.ofChange savesetRescuesWrong)

/-- 'glazierlaw43.SavesetFull': WHATEVER THE INPUT: true; the input reads as it did. -/
def savesetFullSpec : ChangeSpec := { name := "savesetFull", fn := fun _ => fun
  | [] => { results := [.lit (.bool true)], args := [] }
  | _ => none }
def savesetFullRow : OpenClaim := { program := "ytkpbbiknhhmfiaa", sum := "96f2b7adcfa6c49f2c57de14581725663842b092fc139b2134d67dec8d5c9cad", func := "glazier/glazierlaw43.SavesetFull", spec := "savesetFull", inPlace := ["maps.clone"], unfollowed := true, recurses := true, apart := false }
def SavesetFullSaid : Prop := savesetFullRow.holds Try.pinned (OpenSpec.ofChange savesetFullSpec)

/-- ITS FALSE NEIGHBOUR: 'it returns false'. Refute it at one input. -/
def savesetFullWrong : ChangeSpec := { name := "savesetFull", fn := fun _ => fun
  | [] => { results := [.lit (.bool false)], args := [] }
  | _ => none }
def SavesetFullWrongFalsely : Prop := savesetFullRow.holds Try.pinned (OpenSpec.ofChange savesetFullWrong)

/-- 'glazierlaw43.SavesetPlays': WHATEVER THE INPUT: true; the input reads as it did. -/
def savesetPlaysSpec : ChangeSpec := { name := "savesetPlays", fn := fun _ => fun
  | [d] => { results := [.lit (.bool true)], args := [d] }
  | _ => none }
def savesetPlaysRow : OpenClaim := { program := "ytkpbbiknhhmfiaa", sum := "96f2b7adcfa6c49f2c57de14581725663842b092fc139b2134d67dec8d5c9cad", func := "glazier/glazierlaw43.SavesetPlays", spec := "savesetPlays", inPlace := ["maps.clone"], unfollowed := true, recurses := true, apart := false }
def SavesetPlaysSaid : Prop := savesetPlaysRow.holds Try.pinned (OpenSpec.ofChange savesetPlaysSpec)

/-- ITS FALSE NEIGHBOUR: 'it returns false'. Refute it at one input. -/
def savesetPlaysWrong : ChangeSpec := { name := "savesetPlays", fn := fun _ => fun
  | [d] => { results := [.lit (.bool false)], args := [d] }
  | _ => none }
def SavesetPlaysWrongFalsely : Prop := savesetPlaysRow.holds Try.pinned (OpenSpec.ofChange savesetPlaysWrong)

/-- 'glazierlaw43.SavesetNone': WHATEVER THE INPUT: true; the input reads as it did. -/
def savesetNoneSpec : ChangeSpec := { name := "savesetNone", fn := fun _ => fun
  | [d1, d2] => { results := [.lit (.bool true)], args := [d1, d2] }
  | _ => none }
def savesetNoneRow : OpenClaim := { program := "ytkpbbiknhhmfiaa", sum := "96f2b7adcfa6c49f2c57de14581725663842b092fc139b2134d67dec8d5c9cad", func := "glazier/glazierlaw43.SavesetNone", spec := "savesetNone", inPlace := ["maps.clone"], unfollowed := true, recurses := true, apart := false }
def SavesetNoneSaid : Prop := savesetNoneRow.holds Try.pinned (OpenSpec.ofChange savesetNoneSpec)

/-- ITS FALSE NEIGHBOUR: 'it returns false'. Refute it at one input. -/
def savesetNoneWrong : ChangeSpec := { name := "savesetNone", fn := fun _ => fun
  | [d1, d2] => { results := [.lit (.bool false)], args := [d1, d2] }
  | _ => none }
def SavesetNoneWrongFalsely : Prop := savesetNoneRow.holds Try.pinned (OpenSpec.ofChange savesetNoneWrong)

/-- 'glazierlaw43.SavesetLives': WHATEVER THE INPUT: true; the input reads as it did. -/
def savesetLivesSpec : ChangeSpec := { name := "savesetLives", fn := fun _ => fun
  | [d1, d2] => { results := [.lit (.bool true)], args := [d1, d2] }
  | _ => none }
def savesetLivesRow : OpenClaim := { program := "ytkpbbiknhhmfiaa", sum := "96f2b7adcfa6c49f2c57de14581725663842b092fc139b2134d67dec8d5c9cad", func := "glazier/glazierlaw43.SavesetLives", spec := "savesetLives", inPlace := ["maps.clone"], unfollowed := true, recurses := true, apart := false }
def SavesetLivesSaid : Prop := savesetLivesRow.holds Try.pinned (OpenSpec.ofChange savesetLivesSpec)

/-- ITS FALSE NEIGHBOUR: 'it returns false'. Refute it at one input. -/
def savesetLivesWrong : ChangeSpec := { name := "savesetLives", fn := fun _ => fun
  | [d1, d2] => { results := [.lit (.bool false)], args := [d1, d2] }
  | _ => none }
def SavesetLivesWrongFalsely : Prop := savesetLivesRow.holds Try.pinned (OpenSpec.ofChange savesetLivesWrong)

/- THE SECOND FORM. 'bulk': how many values and letters a reading holds, each counted each time it is reached (what is shared counts as often as it is met; a slice's spare places count too). A statement '..UptoSaid' is the law's where the arguments, and the package variables that the reading takes, are together of bulk at most 1048576: NARROWER than '..Said'. Prove '..Said' where nothing that the law and all that it calls make is longer than what came in: it says more and counts as full. Else prove '..UptoSaid'. A law counts once. -/
mutual
def uptoBulk {H : Type} : DataW H → Nat
  | .lit (.string bytes) => bytes.length + 1
  | .lit _ => 1
  | .nil => 1
  | .ptr d => uptoBulk d + 1
  | .slice elems spare => uptoBulkAll elems + uptoBulkAll spare + 1
  | .agg parts => uptoBulkAll parts + 1
  | .iface _ d => uptoBulk d + 1
  | .map entries => uptoBulkEntries entries + 1
  | .held _ => 1
def uptoBulkAll {H : Type} : List (DataW H) → Nat
  | [] => 0
  | d :: r => uptoBulk d + uptoBulkAll r
def uptoBulkEntries {H : Type} : List (Lit × DataW H) → Nat
  | [] => 0
  | x :: r => uptoBulkEntry x + uptoBulkEntries r
def uptoBulkEntry {H : Type} : Lit × DataW H → Nat
  | (.string bytes, d) => bytes.length + uptoBulk d + 1
  | (_, d) => uptoBulk d + 1
 end
def uptoSmall : (H : Type) → List (DataW H) → Bool := fun _ ds => decide (uptoBulkAll ds ≤ 1048576)
def OpenSpec.upto (s : _root_.Go.ChangeSpec) : _root_.Go.OpenSpec := { _root_.Go.OpenSpec.ofChange s with cond := some uptoSmall }

/-- 'glazierlaw43.SavesetRescues', WHERE WHAT IT READS IS OF BULK AT MOST 1048576: true; the input reads as it did. -/
def savesetRescuesUptoRow : OpenClaim := { program := "ytkpbbiknhhmfiaa", sum := "96f2b7adcfa6c49f2c57de14581725663842b092fc139b2134d67dec8d5c9cad", func := "glazier/glazierlaw43.SavesetRescues", spec := "savesetRescues", inPlace := ["maps.clone"], unfollowed := true, recurses := true, apart := false, narrowed := true }
def SavesetRescuesUptoSaid : Prop := savesetRescuesUptoRow.holds Try.pinned (OpenSpec.upto savesetRescuesSpec)

/-- 'glazierlaw43.SavesetFull', WHERE WHAT IT READS IS OF BULK AT MOST 1048576: true; the input reads as it did. -/
def savesetFullUptoRow : OpenClaim := { program := "ytkpbbiknhhmfiaa", sum := "96f2b7adcfa6c49f2c57de14581725663842b092fc139b2134d67dec8d5c9cad", func := "glazier/glazierlaw43.SavesetFull", spec := "savesetFull", inPlace := ["maps.clone"], unfollowed := true, recurses := true, apart := false, narrowed := true }
def SavesetFullUptoSaid : Prop := savesetFullUptoRow.holds Try.pinned (OpenSpec.upto savesetFullSpec)

/-- 'glazierlaw43.SavesetPlays', WHERE WHAT IT READS IS OF BULK AT MOST 1048576: true; the input reads as it did. -/
def savesetPlaysUptoRow : OpenClaim := { program := "ytkpbbiknhhmfiaa", sum := "96f2b7adcfa6c49f2c57de14581725663842b092fc139b2134d67dec8d5c9cad", func := "glazier/glazierlaw43.SavesetPlays", spec := "savesetPlays", inPlace := ["maps.clone"], unfollowed := true, recurses := true, apart := false, narrowed := true }
def SavesetPlaysUptoSaid : Prop := savesetPlaysUptoRow.holds Try.pinned (OpenSpec.upto savesetPlaysSpec)

/-- 'glazierlaw43.SavesetNone', WHERE WHAT IT READS IS OF BULK AT MOST 1048576: true; the input reads as it did. -/
def savesetNoneUptoRow : OpenClaim := { program := "ytkpbbiknhhmfiaa", sum := "96f2b7adcfa6c49f2c57de14581725663842b092fc139b2134d67dec8d5c9cad", func := "glazier/glazierlaw43.SavesetNone", spec := "savesetNone", inPlace := ["maps.clone"], unfollowed := true, recurses := true, apart := false, narrowed := true }
def SavesetNoneUptoSaid : Prop := savesetNoneUptoRow.holds Try.pinned (OpenSpec.upto savesetNoneSpec)

/-- 'glazierlaw43.SavesetLives', WHERE WHAT IT READS IS OF BULK AT MOST 1048576: true; the input reads as it did. -/
def savesetLivesUptoRow : OpenClaim := { program := "ytkpbbiknhhmfiaa", sum := "96f2b7adcfa6c49f2c57de14581725663842b092fc139b2134d67dec8d5c9cad", func := "glazier/glazierlaw43.SavesetLives", spec := "savesetLives", inPlace := ["maps.clone"], unfollowed := true, recurses := true, apart := false, narrowed := true }
def SavesetLivesUptoSaid : Prop := savesetLivesUptoRow.holds Try.pinned (OpenSpec.upto savesetLivesSpec)

end Rows
end Go.Proofs.Ytkpbbiknhhmfiaa
