/-
  No cell of these rows narrows 'for every input' (looked for: loops, veiled, ifaces, maps, wideKeys, modest, calm, conditions, laid).
  DERIVED. THE GIVEN ROWS OF THIS SEAT. 7 by the template 'for every input the law returns true; each argument reads behind the call as it read before'; 0 by the template 'total and deterministic' (their statements: YtmfbfbhkjclhkaaTotals.lean).
  GIVEN WITH THE SEED: the statements are not yours to turn. If you find one false, say at which input.
  Laid BY PROGRAM, IN A SANDBOX (cutbox-rows.mjs): the forced cells as the released guide's own fill.sh prints them over the translation 2467c322c6674746… (all of the seat's roots in one cut). By AI agents, Wed Nov 11 2026. No macro, syntax, notation, axiom, sorry.
-/
import Derived.Test.YtmfbfbhkjclhkaaChecked
import GoSem.Claim
import GoSem.ClaimJoined
import GoSem.ClaimMapViews
import Derived.JoinedTies
import Derived.KernelRfl
namespace Go.Proofs.Ytmfbfbhkjclhkaa
/- THE CELL 'sum', in the pinned program and in every row, IS THE sha256 OF THE DUMP (.gsa) THAT YtmfbfbhkjclhkaaProg.lean LOADS. Nothing in Lean hashes anything: it is a label: what it is worth is what the hold of that sum in a sandbox is worth. -/
noncomputable def Try.pinned : Pinned := { name := "ytmfbfbhkjclhkaa", sum := "2467c322c6674746025b73e6aeaaf110f4b682da53bbae9ca875410a7a7ce9aa", checked := Try.checked }
namespace Rows
def none {H : Type} : Left H := { results := [], args := [] }

/-- 'glazierlaw19.PenChanges': WHATEVER THE INPUT: true; the input reads as it did. -/
def penChangesSpec : ChangeSpec := { name := "penChanges", fn := fun _ => fun
  | [d1, d2, d3] => { results := [.lit (.bool true)], args := [d1, d2, d3] }
  | _ => none }
def penChangesRow : OpenClaim := { program := "ytmfbfbhkjclhkaa", sum := "2467c322c6674746025b73e6aeaaf110f4b682da53bbae9ca875410a7a7ce9aa", func := "glazier/glazierlaw19.PenChanges", spec := "penChanges", unfollowed := true, recurses := true, apart := false }
def PenChangesSaid : Prop := penChangesRow.holds Try.pinned (OpenSpec.ofChange penChangesSpec)

/-- ITS FALSE NEIGHBOUR: 'it returns false'. Refute it at one input. -/
def penChangesWrong : ChangeSpec := { name := "penChanges", fn := fun _ => fun
  | [d1, d2, d3] => { results := [.lit (.bool false)], args := [d1, d2, d3] }
  | _ => none }
def PenChangesWrongFalsely : Prop := penChangesRow.holds Try.pinned (OpenSpec.ofChange penChangesWrong)

/-- 'glazierlaw19.PenClips': WHATEVER THE INPUT: true; the input reads as it did. -/
def penClipsSpec : ChangeSpec := { name := "penClips", fn := fun _ => fun
  | [d1, d2, d3, d4, d5] => { results := [.lit (.bool true)], args := [d1, d2, d3, d4, d5] }
  | _ => none }
def penClipsRow : OpenClaim := { program := "ytmfbfbhkjclhkaa", sum := "2467c322c6674746025b73e6aeaaf110f4b682da53bbae9ca875410a7a7ce9aa", func := "glazier/glazierlaw19.PenClips", spec := "penClips", unfollowed := true, recurses := true, apart := false }
def PenClipsSaid : Prop := penClipsRow.holds Try.pinned (OpenSpec.ofChange penClipsSpec)

/-- ITS FALSE NEIGHBOUR: 'it returns false'. Refute it at one input. -/
def penClipsWrong : ChangeSpec := { name := "penClips", fn := fun _ => fun
  | [d1, d2, d3, d4, d5] => { results := [.lit (.bool false)], args := [d1, d2, d3, d4, d5] }
  | _ => none }
def PenClipsWrongFalsely : Prop := penClipsRow.holds Try.pinned (OpenSpec.ofChange penClipsWrong)

/-- 'glazierlaw19.PenRegions': WHATEVER THE INPUT: true; the input reads as it did. -/
def penRegionsSpec : ChangeSpec := { name := "penRegions", fn := fun _ => fun
  | [d1, d2, d3] => { results := [.lit (.bool true)], args := [d1, d2, d3] }
  | _ => none }
def penRegionsRow : OpenClaim := { program := "ytmfbfbhkjclhkaa", sum := "2467c322c6674746025b73e6aeaaf110f4b682da53bbae9ca875410a7a7ce9aa", func := "glazier/glazierlaw19.PenRegions", spec := "penRegions", unfollowed := true, recurses := true, apart := false }
def PenRegionsSaid : Prop := penRegionsRow.holds Try.pinned (OpenSpec.ofChange penRegionsSpec)

/-- ITS FALSE NEIGHBOUR: 'it returns false'. Refute it at one input. -/
def penRegionsWrong : ChangeSpec := { name := "penRegions", fn := fun _ => fun
  | [d1, d2, d3] => { results := [.lit (.bool false)], args := [d1, d2, d3] }
  | _ => none }
def PenRegionsWrongFalsely : Prop := penRegionsRow.holds Try.pinned (OpenSpec.ofChange penRegionsWrong)

/-- 'glazierlaw19.PenMore': WHATEVER THE INPUT: true; the input reads as it did. -/
def penMoreSpec : ChangeSpec := { name := "penMore", fn := fun _ => fun
  | [d1, d2, d3, d4] => { results := [.lit (.bool true)], args := [d1, d2, d3, d4] }
  | _ => none }
def penMoreRow : OpenClaim := { program := "ytmfbfbhkjclhkaa", sum := "2467c322c6674746025b73e6aeaaf110f4b682da53bbae9ca875410a7a7ce9aa", func := "glazier/glazierlaw19.PenMore", spec := "penMore", unfollowed := true, recurses := true, apart := false }
def PenMoreSaid : Prop := penMoreRow.holds Try.pinned (OpenSpec.ofChange penMoreSpec)

/-- ITS FALSE NEIGHBOUR: 'it returns false'. Refute it at one input. -/
def penMoreWrong : ChangeSpec := { name := "penMore", fn := fun _ => fun
  | [d1, d2, d3, d4] => { results := [.lit (.bool false)], args := [d1, d2, d3, d4] }
  | _ => none }
def PenMoreWrongFalsely : Prop := penMoreRow.holds Try.pinned (OpenSpec.ofChange penMoreWrong)

/-- 'glazierlaw19.PenChecks': WHATEVER THE INPUT: true; the input reads as it did. -/
def penChecksSpec : ChangeSpec := { name := "penChecks", fn := fun _ => fun
  | [d1, d2] => { results := [.lit (.bool true)], args := [d1, d2] }
  | _ => none }
def penChecksRow : OpenClaim := { program := "ytmfbfbhkjclhkaa", sum := "2467c322c6674746025b73e6aeaaf110f4b682da53bbae9ca875410a7a7ce9aa", func := "glazier/glazierlaw19.PenChecks", spec := "penChecks", unfollowed := true, recurses := true, apart := false }
def PenChecksSaid : Prop := penChecksRow.holds Try.pinned (OpenSpec.ofChange penChecksSpec)

/-- ITS FALSE NEIGHBOUR: 'it returns false'. Refute it at one input. -/
def penChecksWrong : ChangeSpec := { name := "penChecks", fn := fun _ => fun
  | [d1, d2] => { results := [.lit (.bool false)], args := [d1, d2] }
  | _ => none }
def PenChecksWrongFalsely : Prop := penChecksRow.holds Try.pinned (OpenSpec.ofChange penChecksWrong)

/-- 'glazierlaw19.PenTwice': WHATEVER THE INPUT: true; the input reads as it did. -/
def penTwiceSpec : ChangeSpec := { name := "penTwice", fn := fun _ => fun
  | [d1, d2, d3, d4] => { results := [.lit (.bool true)], args := [d1, d2, d3, d4] }
  | _ => none }
def penTwiceRow : OpenClaim := { program := "ytmfbfbhkjclhkaa", sum := "2467c322c6674746025b73e6aeaaf110f4b682da53bbae9ca875410a7a7ce9aa", func := "glazier/glazierlaw19.PenTwice", spec := "penTwice", unfollowed := true, recurses := true, apart := false }
def PenTwiceSaid : Prop := penTwiceRow.holds Try.pinned (OpenSpec.ofChange penTwiceSpec)

/-- ITS FALSE NEIGHBOUR: 'it returns false'. Refute it at one input. -/
def penTwiceWrong : ChangeSpec := { name := "penTwice", fn := fun _ => fun
  | [d1, d2, d3, d4] => { results := [.lit (.bool false)], args := [d1, d2, d3, d4] }
  | _ => none }
def PenTwiceWrongFalsely : Prop := penTwiceRow.holds Try.pinned (OpenSpec.ofChange penTwiceWrong)

/-- 'glazierlaw19.PenMoves': WHATEVER THE INPUT: true; the input reads as it did. -/
def penMovesSpec : ChangeSpec := { name := "penMoves", fn := fun _ => fun
  | [d1, d2, d3, d4, d5] => { results := [.lit (.bool true)], args := [d1, d2, d3, d4, d5] }
  | _ => none }
def penMovesRow : OpenClaim := { program := "ytmfbfbhkjclhkaa", sum := "2467c322c6674746025b73e6aeaaf110f4b682da53bbae9ca875410a7a7ce9aa", func := "glazier/glazierlaw19.PenMoves", spec := "penMoves", unfollowed := true, recurses := true, apart := false }
def PenMovesSaid : Prop := penMovesRow.holds Try.pinned (OpenSpec.ofChange penMovesSpec)

/-- ITS FALSE NEIGHBOUR: 'it returns false'. Refute it at one input. -/
def penMovesWrong : ChangeSpec := { name := "penMoves", fn := fun _ => fun
  | [d1, d2, d3, d4, d5] => { results := [.lit (.bool false)], args := [d1, d2, d3, d4, d5] }
  | _ => none }
def PenMovesWrongFalsely : Prop := penMovesRow.holds Try.pinned (OpenSpec.ofChange penMovesWrong)

/- THE SECOND FORM. 'bulk': how many values and letters a reading holds, each counted each time it is reached (what is shared counts as often as it is met; a slice's spare places count too). A statement '..UptoSaid' is the law's where the arguments, and the package variables that the reading takes, are together of bulk at most 1048576: NARROWER than '..Said'. Prove '..Said' where nothing that the law and all that it calls make is longer than what came in: it says more and counts as full. Else prove '..UptoSaid'. A law counts once. -/
mutual
def uptoBulk {H : Type} : DataW H → Nat
  | .lit (.string bytes) => bytes.length + 1
  | .lit _ => 1
  | .nil => 1
  | .ptr d => uptoBulk d + 1
  | .slice elems spare => uptoBulkAll elems + uptoBulkAll spare + 1
  | .agg parts => uptoBulkAll parts + 1
  | .iface _ d => uptoBulk d + 1
  | .map entries => uptoBulkEntries entries + 1
  | .held _ => 1
def uptoBulkAll {H : Type} : List (DataW H) → Nat
  | [] => 0
  | d :: r => uptoBulk d + uptoBulkAll r
def uptoBulkEntries {H : Type} : List (Lit × DataW H) → Nat
  | [] => 0
  | x :: r => uptoBulkEntry x + uptoBulkEntries r
def uptoBulkEntry {H : Type} : Lit × DataW H → Nat
  | (.string bytes, d) => bytes.length + uptoBulk d + 1
  | (_, d) => uptoBulk d + 1
 end
def uptoSmall : (H : Type) → List (DataW H) → Bool := fun _ ds => decide (uptoBulkAll ds ≤ 1048576)
def OpenSpec.upto (s : _root_.Go.ChangeSpec) : _root_.Go.OpenSpec := { _root_.Go.OpenSpec.ofChange s with cond := some uptoSmall }

/-- 'glazierlaw19.PenChanges', WHERE WHAT IT READS IS OF BULK AT MOST 1048576: true; the input reads as it did. -/
def penChangesUptoRow : OpenClaim := { program := "ytmfbfbhkjclhkaa", sum := "2467c322c6674746025b73e6aeaaf110f4b682da53bbae9ca875410a7a7ce9aa", func := "glazier/glazierlaw19.PenChanges", spec := "penChanges", unfollowed := true, recurses := true, apart := false, narrowed := true }
def PenChangesUptoSaid : Prop := penChangesUptoRow.holds Try.pinned (OpenSpec.upto penChangesSpec)

/-- 'glazierlaw19.PenClips', WHERE WHAT IT READS IS OF BULK AT MOST 1048576: true; the input reads as it did. -/
def penClipsUptoRow : OpenClaim := { program := "ytmfbfbhkjclhkaa", sum := "2467c322c6674746025b73e6aeaaf110f4b682da53bbae9ca875410a7a7ce9aa", func := "glazier/glazierlaw19.PenClips", spec := "penClips", unfollowed := true, recurses := true, apart := false, narrowed := true }
def PenClipsUptoSaid : Prop := penClipsUptoRow.holds Try.pinned (OpenSpec.upto penClipsSpec)

/-- 'glazierlaw19.PenRegions', WHERE WHAT IT READS IS OF BULK AT MOST 1048576: true; the input reads as it did. -/
def penRegionsUptoRow : OpenClaim := { program := "ytmfbfbhkjclhkaa", sum := "2467c322c6674746025b73e6aeaaf110f4b682da53bbae9ca875410a7a7ce9aa", func := "glazier/glazierlaw19.PenRegions", spec := "penRegions", unfollowed := true, recurses := true, apart := false, narrowed := true }
def PenRegionsUptoSaid : Prop := penRegionsUptoRow.holds Try.pinned (OpenSpec.upto penRegionsSpec)

/-- 'glazierlaw19.PenMore', WHERE WHAT IT READS IS OF BULK AT MOST 1048576: true; the input reads as it did. -/
def penMoreUptoRow : OpenClaim := { program := "ytmfbfbhkjclhkaa", sum := "2467c322c6674746025b73e6aeaaf110f4b682da53bbae9ca875410a7a7ce9aa", func := "glazier/glazierlaw19.PenMore", spec := "penMore", unfollowed := true, recurses := true, apart := false, narrowed := true }
def PenMoreUptoSaid : Prop := penMoreUptoRow.holds Try.pinned (OpenSpec.upto penMoreSpec)

/-- 'glazierlaw19.PenChecks', WHERE WHAT IT READS IS OF BULK AT MOST 1048576: true; the input reads as it did. -/
def penChecksUptoRow : OpenClaim := { program := "ytmfbfbhkjclhkaa", sum := "2467c322c6674746025b73e6aeaaf110f4b682da53bbae9ca875410a7a7ce9aa", func := "glazier/glazierlaw19.PenChecks", spec := "penChecks", unfollowed := true, recurses := true, apart := false, narrowed := true }
def PenChecksUptoSaid : Prop := penChecksUptoRow.holds Try.pinned (OpenSpec.upto penChecksSpec)

/-- 'glazierlaw19.PenTwice', WHERE WHAT IT READS IS OF BULK AT MOST 1048576: true; the input reads as it did. -/
def penTwiceUptoRow : OpenClaim := { program := "ytmfbfbhkjclhkaa", sum := "2467c322c6674746025b73e6aeaaf110f4b682da53bbae9ca875410a7a7ce9aa", func := "glazier/glazierlaw19.PenTwice", spec := "penTwice", unfollowed := true, recurses := true, apart := false, narrowed := true }
def PenTwiceUptoSaid : Prop := penTwiceUptoRow.holds Try.pinned (OpenSpec.upto penTwiceSpec)

/-- 'glazierlaw19.PenMoves', WHERE WHAT IT READS IS OF BULK AT MOST 1048576: true; the input reads as it did. -/
def penMovesUptoRow : OpenClaim := { program := "ytmfbfbhkjclhkaa", sum := "2467c322c6674746025b73e6aeaaf110f4b682da53bbae9ca875410a7a7ce9aa", func := "glazier/glazierlaw19.PenMoves", spec := "penMoves", unfollowed := true, recurses := true, apart := false, narrowed := true }
def PenMovesUptoSaid : Prop := penMovesUptoRow.holds Try.pinned (OpenSpec.upto penMovesSpec)

end Rows
end Go.Proofs.Ytmfbfbhkjclhkaa
