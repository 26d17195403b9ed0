/-
  No cell of these rows narrows 'for every input' (looked for: loops, veiled, ifaces, maps, wideKeys, modest, calm, conditions, laid).
  DERIVED. THE GIVEN ROWS OF THIS SEAT. 7 by the template 'for every input the law returns true; each argument reads behind the call as it read before'; 0 by the template 'total and deterministic' (their statements: YtdknjjgmmmmfjaaTotals.lean).
  GIVEN WITH THE SEED: the statements are not yours to turn. If you find one false, say at which input.
  Laid BY PROGRAM, IN A SANDBOX (cutbox-rows.mjs): the forced cells as the released guide's own fill.sh prints them over the translation aa036e744f118cb6… (all of the seat's roots in one cut). By AI agents, Wed Nov 11 2026. No macro, syntax, notation, axiom, sorry.
-/
import Derived.Test.YtdknjjgmmmmfjaaChecked
import GoSem.Claim
import GoSem.ClaimJoined
import GoSem.ClaimMapViews
import Derived.JoinedTies
import Derived.KernelRfl
namespace Go.Proofs.Ytdknjjgmmmmfjaa
/- THE CELL 'sum', in the pinned program and in every row, IS THE sha256 OF THE DUMP (.gsa) THAT YtdknjjgmmmmfjaaProg.lean LOADS. Nothing in Lean hashes anything: it is a label: what it is worth is what the hold of that sum in a sandbox is worth. -/
noncomputable def Try.pinned : Pinned := { name := "ytdknjjgmmmmfjaa", sum := "aa036e744f118cb6fddf8b4d81f68f3a9b2c2a7b807440e9872ccc66b211ce01", checked := Try.checked }
namespace Rows
def none {H : Type} : Left H := { results := [], args := [] }

/-- 'glazierlaw15.ShapeGrows': WHATEVER THE INPUT: true; the input reads as it did. -/
def shapeGrowsSpec : ChangeSpec := { name := "shapeGrows", fn := fun _ => fun
  | [d1, d2] => { results := [.lit (.bool true)], args := [d1, d2] }
  | _ => none }
def shapeGrowsRow : OpenClaim := { program := "ytdknjjgmmmmfjaa", sum := "aa036e744f118cb6fddf8b4d81f68f3a9b2c2a7b807440e9872ccc66b211ce01", func := "glazier/glazierlaw15.ShapeGrows", spec := "shapeGrows", unfollowed := true, recurses := true, apart := false }
def ShapeGrowsSaid : Prop := shapeGrowsRow.holds Try.pinned (OpenSpec.ofChange shapeGrowsSpec)

/-- ITS FALSE NEIGHBOUR: 'it returns false'. Refute it at one input. -/
def shapeGrowsWrong : ChangeSpec := { name := "shapeGrows", fn := fun _ => fun
  | [d1, d2] => { results := [.lit (.bool false)], args := [d1, d2] }
  | _ => none }
def ShapeGrowsWrongFalsely : Prop := shapeGrowsRow.holds Try.pinned (OpenSpec.ofChange shapeGrowsWrong)

/-- 'glazierlaw15.ShapeEdges': WHATEVER THE INPUT: true; the input reads as it did. -/
def shapeEdgesSpec : ChangeSpec := { name := "shapeEdges", fn := fun _ => fun
  | [d] => { results := [.lit (.bool true)], args := [d] }
  | _ => none }
def shapeEdgesRow : OpenClaim := { program := "ytdknjjgmmmmfjaa", sum := "aa036e744f118cb6fddf8b4d81f68f3a9b2c2a7b807440e9872ccc66b211ce01", func := "glazier/glazierlaw15.ShapeEdges", spec := "shapeEdges", unfollowed := true, recurses := true, apart := false }
def ShapeEdgesSaid : Prop := shapeEdgesRow.holds Try.pinned (OpenSpec.ofChange shapeEdgesSpec)

/-- ITS FALSE NEIGHBOUR: 'it returns false'. Refute it at one input. -/
def shapeEdgesWrong : ChangeSpec := { name := "shapeEdges", fn := fun _ => fun
  | [d] => { results := [.lit (.bool false)], args := [d] }
  | _ => none }
def ShapeEdgesWrongFalsely : Prop := shapeEdgesRow.holds Try.pinned (OpenSpec.ofChange shapeEdgesWrong)

/-- 'glazierlaw15.ShapeCloses': WHATEVER THE INPUT: true; the input reads as it did. -/
def shapeClosesSpec : ChangeSpec := { name := "shapeCloses", fn := fun _ => fun
  | [d1, d2] => { results := [.lit (.bool true)], args := [d1, d2] }
  | _ => none }
def shapeClosesRow : OpenClaim := { program := "ytdknjjgmmmmfjaa", sum := "aa036e744f118cb6fddf8b4d81f68f3a9b2c2a7b807440e9872ccc66b211ce01", func := "glazier/glazierlaw15.ShapeCloses", spec := "shapeCloses", unfollowed := true, recurses := true, apart := false }
def ShapeClosesSaid : Prop := shapeClosesRow.holds Try.pinned (OpenSpec.ofChange shapeClosesSpec)

/-- ITS FALSE NEIGHBOUR: 'it returns false'. Refute it at one input. -/
def shapeClosesWrong : ChangeSpec := { name := "shapeCloses", fn := fun _ => fun
  | [d1, d2] => { results := [.lit (.bool false)], args := [d1, d2] }
  | _ => none }
def ShapeClosesWrongFalsely : Prop := shapeClosesRow.holds Try.pinned (OpenSpec.ofChange shapeClosesWrong)

/-- 'glazierlaw15.ShapeFar': WHATEVER THE INPUT: true; the input reads as it did. -/
def shapeFarSpec : ChangeSpec := { name := "shapeFar", fn := fun _ => fun
  | [d1, d2, d3] => { results := [.lit (.bool true)], args := [d1, d2, d3] }
  | _ => none }
def shapeFarRow : OpenClaim := { program := "ytdknjjgmmmmfjaa", sum := "aa036e744f118cb6fddf8b4d81f68f3a9b2c2a7b807440e9872ccc66b211ce01", func := "glazier/glazierlaw15.ShapeFar", spec := "shapeFar", unfollowed := true, recurses := true, apart := false }
def ShapeFarSaid : Prop := shapeFarRow.holds Try.pinned (OpenSpec.ofChange shapeFarSpec)

/-- ITS FALSE NEIGHBOUR: 'it returns false'. Refute it at one input. -/
def shapeFarWrong : ChangeSpec := { name := "shapeFar", fn := fun _ => fun
  | [d1, d2, d3] => { results := [.lit (.bool false)], args := [d1, d2, d3] }
  | _ => none }
def ShapeFarWrongFalsely : Prop := shapeFarRow.holds Try.pinned (OpenSpec.ofChange shapeFarWrong)

/-- 'glazierlaw15.ShapeBits': WHATEVER THE INPUT: true; the input reads as it did. -/
def shapeBitsSpec : ChangeSpec := { name := "shapeBits", fn := fun _ => fun
  | [d1, d2, d3] => { results := [.lit (.bool true)], args := [d1, d2, d3] }
  | _ => none }
def shapeBitsRow : OpenClaim := { program := "ytdknjjgmmmmfjaa", sum := "aa036e744f118cb6fddf8b4d81f68f3a9b2c2a7b807440e9872ccc66b211ce01", func := "glazier/glazierlaw15.ShapeBits", spec := "shapeBits", unfollowed := true, recurses := true, apart := false }
def ShapeBitsSaid : Prop := shapeBitsRow.holds Try.pinned (OpenSpec.ofChange shapeBitsSpec)

/-- ITS FALSE NEIGHBOUR: 'it returns false'. Refute it at one input. -/
def shapeBitsWrong : ChangeSpec := { name := "shapeBits", fn := fun _ => fun
  | [d1, d2, d3] => { results := [.lit (.bool false)], args := [d1, d2, d3] }
  | _ => none }
def ShapeBitsWrongFalsely : Prop := shapeBitsRow.holds Try.pinned (OpenSpec.ofChange shapeBitsWrong)

/-- 'glazierlaw15.ShapeMaps': WHATEVER THE INPUT: true; the input reads as it did. -/
def shapeMapsSpec : ChangeSpec := { name := "shapeMaps", fn := fun _ => fun
  | [d1, d2, d3] => { results := [.lit (.bool true)], args := [d1, d2, d3] }
  | _ => none }
def shapeMapsRow : OpenClaim := { program := "ytdknjjgmmmmfjaa", sum := "aa036e744f118cb6fddf8b4d81f68f3a9b2c2a7b807440e9872ccc66b211ce01", func := "glazier/glazierlaw15.ShapeMaps", spec := "shapeMaps", unfollowed := true, recurses := true, apart := false }
def ShapeMapsSaid : Prop := shapeMapsRow.holds Try.pinned (OpenSpec.ofChange shapeMapsSpec)

/-- ITS FALSE NEIGHBOUR: 'it returns false'. Refute it at one input. -/
def shapeMapsWrong : ChangeSpec := { name := "shapeMaps", fn := fun _ => fun
  | [d1, d2, d3] => { results := [.lit (.bool false)], args := [d1, d2, d3] }
  | _ => none }
def ShapeMapsWrongFalsely : Prop := shapeMapsRow.holds Try.pinned (OpenSpec.ofChange shapeMapsWrong)

/-- 'glazierlaw15.ShapeFlips': WHATEVER THE INPUT: true; the input reads as it did. -/
def shapeFlipsSpec : ChangeSpec := { name := "shapeFlips", fn := fun _ => fun
  | [d1, d2, d3] => { results := [.lit (.bool true)], args := [d1, d2, d3] }
  | _ => none }
def shapeFlipsRow : OpenClaim := { program := "ytdknjjgmmmmfjaa", sum := "aa036e744f118cb6fddf8b4d81f68f3a9b2c2a7b807440e9872ccc66b211ce01", func := "glazier/glazierlaw15.ShapeFlips", spec := "shapeFlips", unfollowed := true, recurses := true, apart := false }
def ShapeFlipsSaid : Prop := shapeFlipsRow.holds Try.pinned (OpenSpec.ofChange shapeFlipsSpec)

/-- ITS FALSE NEIGHBOUR: 'it returns false'. Refute it at one input. -/
def shapeFlipsWrong : ChangeSpec := { name := "shapeFlips", fn := fun _ => fun
  | [d1, d2, d3] => { results := [.lit (.bool false)], args := [d1, d2, d3] }
  | _ => none }
def ShapeFlipsWrongFalsely : Prop := shapeFlipsRow.holds Try.pinned (OpenSpec.ofChange shapeFlipsWrong)

/- THE SECOND FORM. 'bulk': how many values and letters a reading holds, each counted each time it is reached (what is shared counts as often as it is met; a slice's spare places count too). A statement '..UptoSaid' is the law's where the arguments, and the package variables that the reading takes, are together of bulk at most 1048576: NARROWER than '..Said'. Prove '..Said' where nothing that the law and all that it calls make is longer than what came in: it says more and counts as full. Else prove '..UptoSaid'. A law counts once. -/
mutual
def uptoBulk {H : Type} : DataW H → Nat
  | .lit (.string bytes) => bytes.length + 1
  | .lit _ => 1
  | .nil => 1
  | .ptr d => uptoBulk d + 1
  | .slice elems spare => uptoBulkAll elems + uptoBulkAll spare + 1
  | .agg parts => uptoBulkAll parts + 1
  | .iface _ d => uptoBulk d + 1
  | .map entries => uptoBulkEntries entries + 1
  | .held _ => 1
def uptoBulkAll {H : Type} : List (DataW H) → Nat
  | [] => 0
  | d :: r => uptoBulk d + uptoBulkAll r
def uptoBulkEntries {H : Type} : List (Lit × DataW H) → Nat
  | [] => 0
  | x :: r => uptoBulkEntry x + uptoBulkEntries r
def uptoBulkEntry {H : Type} : Lit × DataW H → Nat
  | (.string bytes, d) => bytes.length + uptoBulk d + 1
  | (_, d) => uptoBulk d + 1
 end
def uptoSmall : (H : Type) → List (DataW H) → Bool := fun _ ds => decide (uptoBulkAll ds ≤ 1048576)
def OpenSpec.upto (s : _root_.Go.ChangeSpec) : _root_.Go.OpenSpec := { _root_.Go.OpenSpec.ofChange s with cond := some uptoSmall }

/-- 'glazierlaw15.ShapeGrows', WHERE WHAT IT READS IS OF BULK AT MOST 1048576: true; the input reads as it did. -/
def shapeGrowsUptoRow : OpenClaim := { program := "ytdknjjgmmmmfjaa", sum := "aa036e744f118cb6fddf8b4d81f68f3a9b2c2a7b807440e9872ccc66b211ce01", func := "glazier/glazierlaw15.ShapeGrows", spec := "shapeGrows", unfollowed := true, recurses := true, apart := false, narrowed := true }
def ShapeGrowsUptoSaid : Prop := shapeGrowsUptoRow.holds Try.pinned (OpenSpec.upto shapeGrowsSpec)

/-- 'glazierlaw15.ShapeEdges', WHERE WHAT IT READS IS OF BULK AT MOST 1048576: true; the input reads as it did. -/
def shapeEdgesUptoRow : OpenClaim := { program := "ytdknjjgmmmmfjaa", sum := "aa036e744f118cb6fddf8b4d81f68f3a9b2c2a7b807440e9872ccc66b211ce01", func := "glazier/glazierlaw15.ShapeEdges", spec := "shapeEdges", unfollowed := true, recurses := true, apart := false, narrowed := true }
def ShapeEdgesUptoSaid : Prop := shapeEdgesUptoRow.holds Try.pinned (OpenSpec.upto shapeEdgesSpec)

/-- 'glazierlaw15.ShapeCloses', WHERE WHAT IT READS IS OF BULK AT MOST 1048576: true; the input reads as it did. -/
def shapeClosesUptoRow : OpenClaim := { program := "ytdknjjgmmmmfjaa", sum := "aa036e744f118cb6fddf8b4d81f68f3a9b2c2a7b807440e9872ccc66b211ce01", func := "glazier/glazierlaw15.ShapeCloses", spec := "shapeCloses", unfollowed := true, recurses := true, apart := false, narrowed := true }
def ShapeClosesUptoSaid : Prop := shapeClosesUptoRow.holds Try.pinned (OpenSpec.upto shapeClosesSpec)

/-- 'glazierlaw15.ShapeFar', WHERE WHAT IT READS IS OF BULK AT MOST 1048576: true; the input reads as it did. -/
def shapeFarUptoRow : OpenClaim := { program := "ytdknjjgmmmmfjaa", sum := "aa036e744f118cb6fddf8b4d81f68f3a9b2c2a7b807440e9872ccc66b211ce01", func := "glazier/glazierlaw15.ShapeFar", spec := "shapeFar", unfollowed := true, recurses := true, apart := false, narrowed := true }
def ShapeFarUptoSaid : Prop := shapeFarUptoRow.holds Try.pinned (OpenSpec.upto shapeFarSpec)

/-- 'glazierlaw15.ShapeBits', WHERE WHAT IT READS IS OF BULK AT MOST 1048576: true; the input reads as it did. -/
def shapeBitsUptoRow : OpenClaim := { program := "ytdknjjgmmmmfjaa", sum := "aa036e744f118cb6fddf8b4d81f68f3a9b2c2a7b807440e9872ccc66b211ce01", func := "glazier/glazierlaw15.ShapeBits", spec := "shapeBits", unfollowed := true, recurses := true, apart := false, narrowed := true }
def ShapeBitsUptoSaid : Prop := shapeBitsUptoRow.holds Try.pinned (OpenSpec.upto shapeBitsSpec)

/-- 'glazierlaw15.ShapeMaps', WHERE WHAT IT READS IS OF BULK AT MOST 1048576: true; the input reads as it did. -/
def shapeMapsUptoRow : OpenClaim := { program := "ytdknjjgmmmmfjaa", sum := "aa036e744f118cb6fddf8b4d81f68f3a9b2c2a7b807440e9872ccc66b211ce01", func := "glazier/glazierlaw15.ShapeMaps", spec := "shapeMaps", unfollowed := true, recurses := true, apart := false, narrowed := true }
def ShapeMapsUptoSaid : Prop := shapeMapsUptoRow.holds Try.pinned (OpenSpec.upto shapeMapsSpec)

/-- 'glazierlaw15.ShapeFlips', WHERE WHAT IT READS IS OF BULK AT MOST 1048576: true; the input reads as it did. -/
def shapeFlipsUptoRow : OpenClaim := { program := "ytdknjjgmmmmfjaa", sum := "aa036e744f118cb6fddf8b4d81f68f3a9b2c2a7b807440e9872ccc66b211ce01", func := "glazier/glazierlaw15.ShapeFlips", spec := "shapeFlips", unfollowed := true, recurses := true, apart := false, narrowed := true }
def ShapeFlipsUptoSaid : Prop := shapeFlipsUptoRow.holds Try.pinned (OpenSpec.upto shapeFlipsSpec)

end Rows
end Go.Proofs.Ytdknjjgmmmmfjaa
