/-
  No cell of these rows narrows 'for every input' (looked for: loops, veiled, ifaces, maps, wideKeys, modest, calm, conditions, laid).
  DERIVED. THE GIVEN ROWS OF THIS SEAT. 8 by the template 'for every input the law returns true; each argument reads behind the call as it read before'; 0 by the template 'total and deterministic' (their statements: YtkeclfcjmdhcfaaTotals.lean).
  GIVEN WITH THE SEED: the statements are not yours to turn. If you find one false, say at which input.
  Laid BY PROGRAM, IN A SANDBOX (cutbox-rows.mjs): the forced cells as the released guide's own fill.sh prints them over the translation 54f5577de2742bf5… (all of the seat's roots in one cut). By AI agents, Wed Nov 11 2026. No macro, syntax, notation, axiom, sorry.
-/
import Derived.Test.YtkeclfcjmdhcfaaChecked
import GoSem.Claim
import GoSem.ClaimJoined
import GoSem.ClaimMapViews
import Derived.JoinedTies
import Derived.KernelRfl
namespace Go.Proofs.Ytkeclfcjmdhcfaa
/- THE CELL 'sum', in the pinned program and in every row, IS THE sha256 OF THE DUMP (.gsa) THAT YtkeclfcjmdhcfaaProg.lean LOADS. Nothing in Lean hashes anything: it is a label: what it is worth is what the hold of that sum in a sandbox is worth. -/
noncomputable def Try.pinned : Pinned := { name := "ytkeclfcjmdhcfaa", sum := "54f5577de2742bf52bf741a182caa511d679421161f108b5839a3cb3b590fdb2", checked := Try.checked }
namespace Rows
def none {H : Type} : Left H := { results := [], args := [] }

/-- 'glazierlaw22.PolyInside': WHATEVER THE INPUT: true; the input reads as it did. -/
def polyInsideSpec : ChangeSpec := { name := "polyInside", fn := fun _ => fun
  | [d1, d2, d3] => { results := [.lit (.bool true)], args := [d1, d2, d3] }
  | _ => none }
def polyInsideRow : OpenClaim := { program := "ytkeclfcjmdhcfaa", sum := "54f5577de2742bf52bf741a182caa511d679421161f108b5839a3cb3b590fdb2", func := "glazier/glazierlaw22.PolyInside", spec := "polyInside", unfollowed := true, recurses := true, apart := false }
def PolyInsideSaid : Prop := polyInsideRow.holds Try.pinned (OpenSpec.ofChange polyInsideSpec)

/-- ITS FALSE NEIGHBOUR: 'it returns false'. Refute it at one input. -/
def polyInsideWrong : ChangeSpec := { name := "polyInside", fn := fun _ => fun
  | [d1, d2, d3] => { results := [.lit (.bool false)], args := [d1, d2, d3] }
  | _ => none }
def PolyInsideWrongFalsely : Prop := polyInsideRow.holds Try.pinned (OpenSpec.ofChange polyInsideWrong)

/-- 'glazierlaw22.PolyRegion': WHATEVER THE INPUT: true; the input reads as it did. -/
def polyRegionSpec : ChangeSpec := { name := "polyRegion", fn := fun _ => fun
  | [d1, d2] => { results := [.lit (.bool true)], args := [d1, d2] }
  | _ => none }
def polyRegionRow : OpenClaim := { program := "ytkeclfcjmdhcfaa", sum := "54f5577de2742bf52bf741a182caa511d679421161f108b5839a3cb3b590fdb2", func := "glazier/glazierlaw22.PolyRegion", spec := "polyRegion", unfollowed := true, recurses := true, apart := false }
def PolyRegionSaid : Prop := polyRegionRow.holds Try.pinned (OpenSpec.ofChange polyRegionSpec)

/-- ITS FALSE NEIGHBOUR: 'it returns false'. Refute it at one input. -/
def polyRegionWrong : ChangeSpec := { name := "polyRegion", fn := fun _ => fun
  | [d1, d2] => { results := [.lit (.bool false)], args := [d1, d2] }
  | _ => none }
def PolyRegionWrongFalsely : Prop := polyRegionRow.holds Try.pinned (OpenSpec.ofChange polyRegionWrong)

/-- 'glazierlaw22.PolyTurned': WHATEVER THE INPUT: true; the input reads as it did. -/
def polyTurnedSpec : ChangeSpec := { name := "polyTurned", fn := fun _ => fun
  | [d1, d2, d3] => { results := [.lit (.bool true)], args := [d1, d2, d3] }
  | _ => none }
def polyTurnedRow : OpenClaim := { program := "ytkeclfcjmdhcfaa", sum := "54f5577de2742bf52bf741a182caa511d679421161f108b5839a3cb3b590fdb2", func := "glazier/glazierlaw22.PolyTurned", spec := "polyTurned", unfollowed := true, recurses := true, apart := false }
def PolyTurnedSaid : Prop := polyTurnedRow.holds Try.pinned (OpenSpec.ofChange polyTurnedSpec)

/-- ITS FALSE NEIGHBOUR: 'it returns false'. Refute it at one input. -/
def polyTurnedWrong : ChangeSpec := { name := "polyTurned", fn := fun _ => fun
  | [d1, d2, d3] => { results := [.lit (.bool false)], args := [d1, d2, d3] }
  | _ => none }
def PolyTurnedWrongFalsely : Prop := polyTurnedRow.holds Try.pinned (OpenSpec.ofChange polyTurnedWrong)

/-- 'glazierlaw22.PolyShares': WHATEVER THE INPUT: true; the input reads as it did. -/
def polySharesSpec : ChangeSpec := { name := "polyShares", fn := fun _ => fun
  | [d1, d2, d3] => { results := [.lit (.bool true)], args := [d1, d2, d3] }
  | _ => none }
def polySharesRow : OpenClaim := { program := "ytkeclfcjmdhcfaa", sum := "54f5577de2742bf52bf741a182caa511d679421161f108b5839a3cb3b590fdb2", func := "glazier/glazierlaw22.PolyShares", spec := "polyShares", unfollowed := true, recurses := true, apart := false }
def PolySharesSaid : Prop := polySharesRow.holds Try.pinned (OpenSpec.ofChange polySharesSpec)

/-- ITS FALSE NEIGHBOUR: 'it returns false'. Refute it at one input. -/
def polySharesWrong : ChangeSpec := { name := "polyShares", fn := fun _ => fun
  | [d1, d2, d3] => { results := [.lit (.bool false)], args := [d1, d2, d3] }
  | _ => none }
def PolySharesWrongFalsely : Prop := polySharesRow.holds Try.pinned (OpenSpec.ofChange polySharesWrong)

/-- 'glazierlaw22.PolyMoves': WHATEVER THE INPUT: true; the input reads as it did. -/
def polyMovesSpec : ChangeSpec := { name := "polyMoves", fn := fun _ => fun
  | [d1, d2, d3] => { results := [.lit (.bool true)], args := [d1, d2, d3] }
  | _ => none }
def polyMovesRow : OpenClaim := { program := "ytkeclfcjmdhcfaa", sum := "54f5577de2742bf52bf741a182caa511d679421161f108b5839a3cb3b590fdb2", func := "glazier/glazierlaw22.PolyMoves", spec := "polyMoves", unfollowed := true, recurses := true, apart := false }
def PolyMovesSaid : Prop := polyMovesRow.holds Try.pinned (OpenSpec.ofChange polyMovesSpec)

/-- ITS FALSE NEIGHBOUR: 'it returns false'. Refute it at one input. -/
def polyMovesWrong : ChangeSpec := { name := "polyMoves", fn := fun _ => fun
  | [d1, d2, d3] => { results := [.lit (.bool false)], args := [d1, d2, d3] }
  | _ => none }
def PolyMovesWrongFalsely : Prop := polyMovesRow.holds Try.pinned (OpenSpec.ofChange polyMovesWrong)

/-- 'glazierlaw22.PolySteps': WHATEVER THE INPUT: true; the input reads as it did. -/
def polyStepsSpec : ChangeSpec := { name := "polySteps", fn := fun _ => fun
  | [d] => { results := [.lit (.bool true)], args := [d] }
  | _ => none }
def polyStepsRow : OpenClaim := { program := "ytkeclfcjmdhcfaa", sum := "54f5577de2742bf52bf741a182caa511d679421161f108b5839a3cb3b590fdb2", func := "glazier/glazierlaw22.PolySteps", spec := "polySteps", unfollowed := true, recurses := true, apart := false }
def PolyStepsSaid : Prop := polyStepsRow.holds Try.pinned (OpenSpec.ofChange polyStepsSpec)

/-- ITS FALSE NEIGHBOUR: 'it returns false'. Refute it at one input. -/
def polyStepsWrong : ChangeSpec := { name := "polySteps", fn := fun _ => fun
  | [d] => { results := [.lit (.bool false)], args := [d] }
  | _ => none }
def PolyStepsWrongFalsely : Prop := polyStepsRow.holds Try.pinned (OpenSpec.ofChange polyStepsWrong)

/-- 'glazierlaw22.PolyWrong': WHATEVER THE INPUT: true; the input reads as it did. -/
def polyWrongSpec : ChangeSpec := { name := "polyWrong", fn := fun _ => fun
  | [d1, d2] => { results := [.lit (.bool true)], args := [d1, d2] }
  | _ => none }
def polyWrongRow : OpenClaim := { program := "ytkeclfcjmdhcfaa", sum := "54f5577de2742bf52bf741a182caa511d679421161f108b5839a3cb3b590fdb2", func := "glazier/glazierlaw22.PolyWrong", spec := "polyWrong", unfollowed := true, recurses := true, apart := false }
def PolyWrongSaid : Prop := polyWrongRow.holds Try.pinned (OpenSpec.ofChange polyWrongSpec)

/-- ITS FALSE NEIGHBOUR: 'it returns false'. Refute it at one input. -/
def polyWrongWrong : ChangeSpec := { name := "polyWrong", fn := fun _ => fun
  | [d1, d2] => { results := [.lit (.bool false)], args := [d1, d2] }
  | _ => none }
def PolyWrongWrongFalsely : Prop := polyWrongRow.holds Try.pinned (OpenSpec.ofChange polyWrongWrong)

/-- 'glazierlaw22.PolyRects': WHATEVER THE INPUT: true; the input reads as it did. -/
def polyRectsSpec : ChangeSpec := { name := "polyRects", fn := fun _ => fun
  | [d1, d2] => { results := [.lit (.bool true)], args := [d1, d2] }
  | _ => none }
def polyRectsRow : OpenClaim := { program := "ytkeclfcjmdhcfaa", sum := "54f5577de2742bf52bf741a182caa511d679421161f108b5839a3cb3b590fdb2", func := "glazier/glazierlaw22.PolyRects", spec := "polyRects", unfollowed := true, recurses := true, apart := false }
def PolyRectsSaid : Prop := polyRectsRow.holds Try.pinned (OpenSpec.ofChange polyRectsSpec)

/-- ITS FALSE NEIGHBOUR: 'it returns false'. Refute it at one input. -/
def polyRectsWrong : ChangeSpec := { name := "polyRects", fn := fun _ => fun
  | [d1, d2] => { results := [.lit (.bool false)], args := [d1, d2] }
  | _ => none }
def PolyRectsWrongFalsely : Prop := polyRectsRow.holds Try.pinned (OpenSpec.ofChange polyRectsWrong)

/- THE SECOND FORM. 'bulk': how many values and letters a reading holds, each counted each time it is reached (what is shared counts as often as it is met; a slice's spare places count too). A statement '..UptoSaid' is the law's where the arguments, and the package variables that the reading takes, are together of bulk at most 1048576: NARROWER than '..Said'. Prove '..Said' where nothing that the law and all that it calls make is longer than what came in: it says more and counts as full. Else prove '..UptoSaid'. A law counts once. -/
mutual
def uptoBulk {H : Type} : DataW H → Nat
  | .lit (.string bytes) => bytes.length + 1
  | .lit _ => 1
  | .nil => 1
  | .ptr d => uptoBulk d + 1
  | .slice elems spare => uptoBulkAll elems + uptoBulkAll spare + 1
  | .agg parts => uptoBulkAll parts + 1
  | .iface _ d => uptoBulk d + 1
  | .map entries => uptoBulkEntries entries + 1
  | .held _ => 1
def uptoBulkAll {H : Type} : List (DataW H) → Nat
  | [] => 0
  | d :: r => uptoBulk d + uptoBulkAll r
def uptoBulkEntries {H : Type} : List (Lit × DataW H) → Nat
  | [] => 0
  | x :: r => uptoBulkEntry x + uptoBulkEntries r
def uptoBulkEntry {H : Type} : Lit × DataW H → Nat
  | (.string bytes, d) => bytes.length + uptoBulk d + 1
  | (_, d) => uptoBulk d + 1
 end
def uptoSmall : (H : Type) → List (DataW H) → Bool := fun _ ds => decide (uptoBulkAll ds ≤ 1048576)
def OpenSpec.upto (s : _root_.Go.ChangeSpec) : _root_.Go.OpenSpec := { _root_.Go.OpenSpec.ofChange s with cond := some uptoSmall }

/-- 'glazierlaw22.PolyInside', WHERE WHAT IT READS IS OF BULK AT MOST 1048576: true; the input reads as it did. -/
def polyInsideUptoRow : OpenClaim := { program := "ytkeclfcjmdhcfaa", sum := "54f5577de2742bf52bf741a182caa511d679421161f108b5839a3cb3b590fdb2", func := "glazier/glazierlaw22.PolyInside", spec := "polyInside", unfollowed := true, recurses := true, apart := false, narrowed := true }
def PolyInsideUptoSaid : Prop := polyInsideUptoRow.holds Try.pinned (OpenSpec.upto polyInsideSpec)

/-- 'glazierlaw22.PolyRegion', WHERE WHAT IT READS IS OF BULK AT MOST 1048576: true; the input reads as it did. -/
def polyRegionUptoRow : OpenClaim := { program := "ytkeclfcjmdhcfaa", sum := "54f5577de2742bf52bf741a182caa511d679421161f108b5839a3cb3b590fdb2", func := "glazier/glazierlaw22.PolyRegion", spec := "polyRegion", unfollowed := true, recurses := true, apart := false, narrowed := true }
def PolyRegionUptoSaid : Prop := polyRegionUptoRow.holds Try.pinned (OpenSpec.upto polyRegionSpec)

/-- 'glazierlaw22.PolyTurned', WHERE WHAT IT READS IS OF BULK AT MOST 1048576: true; the input reads as it did. -/
def polyTurnedUptoRow : OpenClaim := { program := "ytkeclfcjmdhcfaa", sum := "54f5577de2742bf52bf741a182caa511d679421161f108b5839a3cb3b590fdb2", func := "glazier/glazierlaw22.PolyTurned", spec := "polyTurned", unfollowed := true, recurses := true, apart := false, narrowed := true }
def PolyTurnedUptoSaid : Prop := polyTurnedUptoRow.holds Try.pinned (OpenSpec.upto polyTurnedSpec)

/-- 'glazierlaw22.PolyShares', WHERE WHAT IT READS IS OF BULK AT MOST 1048576: true; the input reads as it did. -/
def polySharesUptoRow : OpenClaim := { program := "ytkeclfcjmdhcfaa", sum := "54f5577de2742bf52bf741a182caa511d679421161f108b5839a3cb3b590fdb2", func := "glazier/glazierlaw22.PolyShares", spec := "polyShares", unfollowed := true, recurses := true, apart := false, narrowed := true }
def PolySharesUptoSaid : Prop := polySharesUptoRow.holds Try.pinned (OpenSpec.upto polySharesSpec)

/-- 'glazierlaw22.PolyMoves', WHERE WHAT IT READS IS OF BULK AT MOST 1048576: true; the input reads as it did. -/
def polyMovesUptoRow : OpenClaim := { program := "ytkeclfcjmdhcfaa", sum := "54f5577de2742bf52bf741a182caa511d679421161f108b5839a3cb3b590fdb2", func := "glazier/glazierlaw22.PolyMoves", spec := "polyMoves", unfollowed := true, recurses := true, apart := false, narrowed := true }
def PolyMovesUptoSaid : Prop := polyMovesUptoRow.holds Try.pinned (OpenSpec.upto polyMovesSpec)

/-- 'glazierlaw22.PolySteps', WHERE WHAT IT READS IS OF BULK AT MOST 1048576: true; the input reads as it did. -/
def polyStepsUptoRow : OpenClaim := { program := "ytkeclfcjmdhcfaa", sum := "54f5577de2742bf52bf741a182caa511d679421161f108b5839a3cb3b590fdb2", func := "glazier/glazierlaw22.PolySteps", spec := "polySteps", unfollowed := true, recurses := true, apart := false, narrowed := true }
def PolyStepsUptoSaid : Prop := polyStepsUptoRow.holds Try.pinned (OpenSpec.upto polyStepsSpec)

/-- 'glazierlaw22.PolyWrong', WHERE WHAT IT READS IS OF BULK AT MOST 1048576: true; the input reads as it did. -/
def polyWrongUptoRow : OpenClaim := { program := "ytkeclfcjmdhcfaa", sum := "54f5577de2742bf52bf741a182caa511d679421161f108b5839a3cb3b590fdb2", func := "glazier/glazierlaw22.PolyWrong", spec := "polyWrong", unfollowed := true, recurses := true, apart := false, narrowed := true }
def PolyWrongUptoSaid : Prop := polyWrongUptoRow.holds Try.pinned (OpenSpec.upto polyWrongSpec)

/-- 'glazierlaw22.PolyRects', WHERE WHAT IT READS IS OF BULK AT MOST 1048576: true; the input reads as it did. -/
def polyRectsUptoRow : OpenClaim := { program := "ytkeclfcjmdhcfaa", sum := "54f5577de2742bf52bf741a182caa511d679421161f108b5839a3cb3b590fdb2", func := "glazier/glazierlaw22.PolyRects", spec := "polyRects", unfollowed := true, recurses := true, apart := false, narrowed := true }
def PolyRectsUptoSaid : Prop := polyRectsUptoRow.holds Try.pinned (OpenSpec.upto polyRectsSpec)

end Rows
end Go.Proofs.Ytkeclfcjmdhcfaa
