/-
  No cell of these rows narrows 'for every input' (looked for: loops, veiled, ifaces, maps, wideKeys, modest, calm, conditions, laid).
  DERIVED. THE GIVEN ROWS OF THIS SEAT. 6 by the template 'for every input the law returns true; each argument reads behind the call as it read before'; 0 by the template 'total and deterministic' (their statements: YtmkpffckhdofbaaTotals.lean).
  GIVEN WITH THE SEED: the statements are not yours to turn. If you find one false, say at which input.
  Laid BY PROGRAM, IN A SANDBOX (cutbox-rows.mjs): the forced cells as the released guide's own fill.sh prints them over the translation c33faa41183776fc… (all of the seat's roots in one cut). By AI agents, Wed Nov 11 2026. No macro, syntax, notation, axiom, sorry.
-/
import Derived.Test.YtmkpffckhdofbaaChecked
import GoSem.Claim
import GoSem.ClaimJoined
import GoSem.ClaimMapViews
import Derived.JoinedTies
import Derived.KernelRfl
namespace Go.Proofs.Ytmkpffckhdofbaa
/- THE CELL 'sum', in the pinned program and in every row, IS THE sha256 OF THE DUMP (.gsa) THAT YtmkpffckhdofbaaProg.lean LOADS. Nothing in Lean hashes anything: it is a label: what it is worth is what the hold of that sum in a sandbox is worth. -/
noncomputable def Try.pinned : Pinned := { name := "ytmkpffckhdofbaa", sum := "c33faa41183776fcd50e779a0c546e453437978a628c30900397c9075972ca2c", checked := Try.checked }
namespace Rows
def none {H : Type} : Left H := { results := [], args := [] }

/-- 'glazierlaw21.ArcSpans': WHATEVER THE INPUT: true; the input reads as it did. -/
def arcSpansSpec : ChangeSpec := { name := "arcSpans", fn := fun _ => fun
  | [d1, d2] => { results := [.lit (.bool true)], args := [d1, d2] }
  | _ => none }
def arcSpansRow : OpenClaim := { program := "ytmkpffckhdofbaa", sum := "c33faa41183776fcd50e779a0c546e453437978a628c30900397c9075972ca2c", func := "glazier/glazierlaw21.ArcSpans", spec := "arcSpans", unfollowed := true, recurses := true, apart := false }
def ArcSpansSaid : Prop := arcSpansRow.holds Try.pinned (OpenSpec.ofChange arcSpansSpec)

/-- ITS FALSE NEIGHBOUR: 'it returns false'. Refute it at one input. -/
def arcSpansWrong : ChangeSpec := { name := "arcSpans", fn := fun _ => fun
  | [d1, d2] => { results := [.lit (.bool false)], args := [d1, d2] }
  | _ => none }
def ArcSpansWrongFalsely : Prop := arcSpansRow.holds Try.pinned (OpenSpec.ofChange arcSpansWrong)

/-- 'glazierlaw21.ArcWrong': WHATEVER THE INPUT: true; the input reads as it did. -/
def arcWrongSpec : ChangeSpec := { name := "arcWrong", fn := fun _ => fun
  | [d] => { results := [.lit (.bool true)], args := [d] }
  | _ => none }
def arcWrongRow : OpenClaim := { program := "ytmkpffckhdofbaa", sum := "c33faa41183776fcd50e779a0c546e453437978a628c30900397c9075972ca2c", func := "glazier/glazierlaw21.ArcWrong", spec := "arcWrong", unfollowed := true, recurses := true, apart := false }
def ArcWrongSaid : Prop := arcWrongRow.holds Try.pinned (OpenSpec.ofChange arcWrongSpec)

/-- ITS FALSE NEIGHBOUR: 'it returns false'. Refute it at one input. -/
def arcWrongWrong : ChangeSpec := { name := "arcWrong", fn := fun _ => fun
  | [d] => { results := [.lit (.bool false)], args := [d] }
  | _ => none }
def ArcWrongWrongFalsely : Prop := arcWrongRow.holds Try.pinned (OpenSpec.ofChange arcWrongWrong)

/-- 'glazierlaw21.ArcInside': WHATEVER THE INPUT: true; the input reads as it did. -/
def arcInsideSpec : ChangeSpec := { name := "arcInside", fn := fun _ => fun
  | [d1, d2, d3] => { results := [.lit (.bool true)], args := [d1, d2, d3] }
  | _ => none }
def arcInsideRow : OpenClaim := { program := "ytmkpffckhdofbaa", sum := "c33faa41183776fcd50e779a0c546e453437978a628c30900397c9075972ca2c", func := "glazier/glazierlaw21.ArcInside", spec := "arcInside", unfollowed := true, recurses := true, apart := false }
def ArcInsideSaid : Prop := arcInsideRow.holds Try.pinned (OpenSpec.ofChange arcInsideSpec)

/-- ITS FALSE NEIGHBOUR: 'it returns false'. Refute it at one input. -/
def arcInsideWrong : ChangeSpec := { name := "arcInside", fn := fun _ => fun
  | [d1, d2, d3] => { results := [.lit (.bool false)], args := [d1, d2, d3] }
  | _ => none }
def ArcInsideWrongFalsely : Prop := arcInsideRow.holds Try.pinned (OpenSpec.ofChange arcInsideWrong)

/-- 'glazierlaw21.ArcDiscs': WHATEVER THE INPUT: true; the input reads as it did. -/
def arcDiscsSpec : ChangeSpec := { name := "arcDiscs", fn := fun _ => fun
  | [d] => { results := [.lit (.bool true)], args := [d] }
  | _ => none }
def arcDiscsRow : OpenClaim := { program := "ytmkpffckhdofbaa", sum := "c33faa41183776fcd50e779a0c546e453437978a628c30900397c9075972ca2c", func := "glazier/glazierlaw21.ArcDiscs", spec := "arcDiscs", unfollowed := true, recurses := true, apart := false }
def ArcDiscsSaid : Prop := arcDiscsRow.holds Try.pinned (OpenSpec.ofChange arcDiscsSpec)

/-- ITS FALSE NEIGHBOUR: 'it returns false'. Refute it at one input. -/
def arcDiscsWrong : ChangeSpec := { name := "arcDiscs", fn := fun _ => fun
  | [d] => { results := [.lit (.bool false)], args := [d] }
  | _ => none }
def ArcDiscsWrongFalsely : Prop := arcDiscsRow.holds Try.pinned (OpenSpec.ofChange arcDiscsWrong)

/-- 'glazierlaw21.ArcMoves': WHATEVER THE INPUT: true; the input reads as it did. -/
def arcMovesSpec : ChangeSpec := { name := "arcMoves", fn := fun _ => fun
  | [d1, d2, d3] => { results := [.lit (.bool true)], args := [d1, d2, d3] }
  | _ => none }
def arcMovesRow : OpenClaim := { program := "ytmkpffckhdofbaa", sum := "c33faa41183776fcd50e779a0c546e453437978a628c30900397c9075972ca2c", func := "glazier/glazierlaw21.ArcMoves", spec := "arcMoves", unfollowed := true, recurses := true, apart := false }
def ArcMovesSaid : Prop := arcMovesRow.holds Try.pinned (OpenSpec.ofChange arcMovesSpec)

/-- ITS FALSE NEIGHBOUR: 'it returns false'. Refute it at one input. -/
def arcMovesWrong : ChangeSpec := { name := "arcMoves", fn := fun _ => fun
  | [d1, d2, d3] => { results := [.lit (.bool false)], args := [d1, d2, d3] }
  | _ => none }
def ArcMovesWrongFalsely : Prop := arcMovesRow.holds Try.pinned (OpenSpec.ofChange arcMovesWrong)

/-- 'glazierlaw21.ArcTurns': WHATEVER THE INPUT: true; the input reads as it did. -/
def arcTurnsSpec : ChangeSpec := { name := "arcTurns", fn := fun _ => fun
  | [d] => { results := [.lit (.bool true)], args := [d] }
  | _ => none }
def arcTurnsRow : OpenClaim := { program := "ytmkpffckhdofbaa", sum := "c33faa41183776fcd50e779a0c546e453437978a628c30900397c9075972ca2c", func := "glazier/glazierlaw21.ArcTurns", spec := "arcTurns", unfollowed := true, recurses := true, apart := false }
def ArcTurnsSaid : Prop := arcTurnsRow.holds Try.pinned (OpenSpec.ofChange arcTurnsSpec)

/-- ITS FALSE NEIGHBOUR: 'it returns false'. Refute it at one input. -/
def arcTurnsWrong : ChangeSpec := { name := "arcTurns", fn := fun _ => fun
  | [d] => { results := [.lit (.bool false)], args := [d] }
  | _ => none }
def ArcTurnsWrongFalsely : Prop := arcTurnsRow.holds Try.pinned (OpenSpec.ofChange arcTurnsWrong)

/- THE SECOND FORM. 'bulk': how many values and letters a reading holds, each counted each time it is reached (what is shared counts as often as it is met; a slice's spare places count too). A statement '..UptoSaid' is the law's where the arguments, and the package variables that the reading takes, are together of bulk at most 1048576: NARROWER than '..Said'. Prove '..Said' where nothing that the law and all that it calls make is longer than what came in: it says more and counts as full. Else prove '..UptoSaid'. A law counts once. -/
mutual
def uptoBulk {H : Type} : DataW H → Nat
  | .lit (.string bytes) => bytes.length + 1
  | .lit _ => 1
  | .nil => 1
  | .ptr d => uptoBulk d + 1
  | .slice elems spare => uptoBulkAll elems + uptoBulkAll spare + 1
  | .agg parts => uptoBulkAll parts + 1
  | .iface _ d => uptoBulk d + 1
  | .map entries => uptoBulkEntries entries + 1
  | .held _ => 1
def uptoBulkAll {H : Type} : List (DataW H) → Nat
  | [] => 0
  | d :: r => uptoBulk d + uptoBulkAll r
def uptoBulkEntries {H : Type} : List (Lit × DataW H) → Nat
  | [] => 0
  | x :: r => uptoBulkEntry x + uptoBulkEntries r
def uptoBulkEntry {H : Type} : Lit × DataW H → Nat
  | (.string bytes, d) => bytes.length + uptoBulk d + 1
  | (_, d) => uptoBulk d + 1
 end
def uptoSmall : (H : Type) → List (DataW H) → Bool := fun _ ds => decide (uptoBulkAll ds ≤ 1048576)
def OpenSpec.upto (s : _root_.Go.ChangeSpec) : _root_.Go.OpenSpec := { _root_.Go.OpenSpec.ofChange s with cond := some uptoSmall }

/-- 'glazierlaw21.ArcSpans', WHERE WHAT IT READS IS OF BULK AT MOST 1048576: true; the input reads as it did. -/
def arcSpansUptoRow : OpenClaim := { program := "ytmkpffckhdofbaa", sum := "c33faa41183776fcd50e779a0c546e453437978a628c30900397c9075972ca2c", func := "glazier/glazierlaw21.ArcSpans", spec := "arcSpans", unfollowed := true, recurses := true, apart := false, narrowed := true }
def ArcSpansUptoSaid : Prop := arcSpansUptoRow.holds Try.pinned (OpenSpec.upto arcSpansSpec)

/-- 'glazierlaw21.ArcWrong', WHERE WHAT IT READS IS OF BULK AT MOST 1048576: true; the input reads as it did. -/
def arcWrongUptoRow : OpenClaim := { program := "ytmkpffckhdofbaa", sum := "c33faa41183776fcd50e779a0c546e453437978a628c30900397c9075972ca2c", func := "glazier/glazierlaw21.ArcWrong", spec := "arcWrong", unfollowed := true, recurses := true, apart := false, narrowed := true }
def ArcWrongUptoSaid : Prop := arcWrongUptoRow.holds Try.pinned (OpenSpec.upto arcWrongSpec)

/-- 'glazierlaw21.ArcInside', WHERE WHAT IT READS IS OF BULK AT MOST 1048576: true; the input reads as it did. -/
def arcInsideUptoRow : OpenClaim := { program := "ytmkpffckhdofbaa", sum := "c33faa41183776fcd50e779a0c546e453437978a628c30900397c9075972ca2c", func := "glazier/glazierlaw21.ArcInside", spec := "arcInside", unfollowed := true, recurses := true, apart := false, narrowed := true }
def ArcInsideUptoSaid : Prop := arcInsideUptoRow.holds Try.pinned (OpenSpec.upto arcInsideSpec)

/-- 'glazierlaw21.ArcDiscs', WHERE WHAT IT READS IS OF BULK AT MOST 1048576: true; the input reads as it did. -/
def arcDiscsUptoRow : OpenClaim := { program := "ytmkpffckhdofbaa", sum := "c33faa41183776fcd50e779a0c546e453437978a628c30900397c9075972ca2c", func := "glazier/glazierlaw21.ArcDiscs", spec := "arcDiscs", unfollowed := true, recurses := true, apart := false, narrowed := true }
def ArcDiscsUptoSaid : Prop := arcDiscsUptoRow.holds Try.pinned (OpenSpec.upto arcDiscsSpec)

/-- 'glazierlaw21.ArcMoves', WHERE WHAT IT READS IS OF BULK AT MOST 1048576: true; the input reads as it did. -/
def arcMovesUptoRow : OpenClaim := { program := "ytmkpffckhdofbaa", sum := "c33faa41183776fcd50e779a0c546e453437978a628c30900397c9075972ca2c", func := "glazier/glazierlaw21.ArcMoves", spec := "arcMoves", unfollowed := true, recurses := true, apart := false, narrowed := true }
def ArcMovesUptoSaid : Prop := arcMovesUptoRow.holds Try.pinned (OpenSpec.upto arcMovesSpec)

/-- 'glazierlaw21.ArcTurns', WHERE WHAT IT READS IS OF BULK AT MOST 1048576: true; the input reads as it did. -/
def arcTurnsUptoRow : OpenClaim := { program := "ytmkpffckhdofbaa", sum := "c33faa41183776fcd50e779a0c546e453437978a628c30900397c9075972ca2c", func := "glazier/glazierlaw21.ArcTurns", spec := "arcTurns", unfollowed := true, recurses := true, apart := false, narrowed := true }
def ArcTurnsUptoSaid : Prop := arcTurnsUptoRow.holds Try.pinned (OpenSpec.upto arcTurnsSpec)

end Rows
end Go.Proofs.Ytmkpffckhdofbaa
