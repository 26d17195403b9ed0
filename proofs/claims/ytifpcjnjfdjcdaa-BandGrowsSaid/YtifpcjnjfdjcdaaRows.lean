/-
  No cell of these rows narrows 'for every input' (looked for: loops, veiled, ifaces, maps, wideKeys, modest, calm, conditions, laid).
  DERIVED. THE GIVEN ROWS OF THIS SEAT. 7 by the template 'for every input the law returns true; each argument reads behind the call as it read before'; 0 by the template 'total and deterministic' (their statements: YtifpcjnjfdjcdaaTotals.lean).
  GIVEN WITH THE SEED: the statements are not yours to turn. If you find one false, say at which input.
  Laid BY PROGRAM, IN A SANDBOX (cutbox-rows.mjs): the forced cells as the released guide's own fill.sh prints them over the translation 9ec214ffe6697a16… (all of the seat's roots in one cut). By AI agents, Wed Nov 11 2026. No macro, syntax, notation, axiom, sorry.
-/
import Derived.Test.YtifpcjnjfdjcdaaChecked
import GoSem.Claim
import GoSem.ClaimJoined
import GoSem.ClaimMapViews
import Derived.JoinedTies
import Derived.KernelRfl
namespace Go.Proofs.Ytifpcjnjfdjcdaa
/- THE CELL 'sum', in the pinned program and in every row, IS THE sha256 OF THE DUMP (.gsa) THAT YtifpcjnjfdjcdaaProg.lean LOADS. Nothing in Lean hashes anything: it is a label: what it is worth is what the hold of that sum in a sandbox is worth. -/
noncomputable def Try.pinned : Pinned := { name := "ytifpcjnjfdjcdaa", sum := "9ec214ffe6697a161b1a2fce60f272cdf7267c9f691fd4ae7a16394c1a5167ea", checked := Try.checked }
namespace Rows
def none {H : Type} : Left H := { results := [], args := [] }

/-- 'glazierlaw13.BandSames': WHATEVER THE INPUT: true; the input reads as it did. -/
def bandSamesSpec : ChangeSpec := { name := "bandSames", fn := fun _ => fun
  | [d1, d2] => { results := [.lit (.bool true)], args := [d1, d2] }
  | _ => none }
def bandSamesRow : OpenClaim := { program := "ytifpcjnjfdjcdaa", sum := "9ec214ffe6697a161b1a2fce60f272cdf7267c9f691fd4ae7a16394c1a5167ea", func := "glazier/glazierlaw13.BandSames", spec := "bandSames", unfollowed := true, recurses := true, apart := false }
def BandSamesSaid : Prop := bandSamesRow.holds Try.pinned (OpenSpec.ofChange bandSamesSpec)

/-- ITS FALSE NEIGHBOUR: 'it returns false'. Refute it at one input. -/
def bandSamesWrong : ChangeSpec := { name := "bandSames", fn := fun _ => fun
  | [d1, d2] => { results := [.lit (.bool false)], args := [d1, d2] }
  | _ => none }
def BandSamesWrongFalsely : Prop := bandSamesRow.holds Try.pinned (OpenSpec.ofChange bandSamesWrong)

/-- 'glazierlaw13.BandCanon': WHATEVER THE INPUT: true; the input reads as it did. -/
def bandCanonSpec : ChangeSpec := { name := "bandCanon", fn := fun _ => fun
  | [d] => { results := [.lit (.bool true)], args := [d] }
  | _ => none }
def bandCanonRow : OpenClaim := { program := "ytifpcjnjfdjcdaa", sum := "9ec214ffe6697a161b1a2fce60f272cdf7267c9f691fd4ae7a16394c1a5167ea", func := "glazier/glazierlaw13.BandCanon", spec := "bandCanon", unfollowed := true, recurses := true, apart := false }
def BandCanonSaid : Prop := bandCanonRow.holds Try.pinned (OpenSpec.ofChange bandCanonSpec)

/-- ITS FALSE NEIGHBOUR: 'it returns false'. Refute it at one input. -/
def bandCanonWrong : ChangeSpec := { name := "bandCanon", fn := fun _ => fun
  | [d] => { results := [.lit (.bool false)], args := [d] }
  | _ => none }
def BandCanonWrongFalsely : Prop := bandCanonRow.holds Try.pinned (OpenSpec.ofChange bandCanonWrong)

/-- 'glazierlaw13.BandOrder': WHATEVER THE INPUT: true; the input reads as it did. -/
def bandOrderSpec : ChangeSpec := { name := "bandOrder", fn := fun _ => fun
  | [d1, d2, d3] => { results := [.lit (.bool true)], args := [d1, d2, d3] }
  | _ => none }
def bandOrderRow : OpenClaim := { program := "ytifpcjnjfdjcdaa", sum := "9ec214ffe6697a161b1a2fce60f272cdf7267c9f691fd4ae7a16394c1a5167ea", func := "glazier/glazierlaw13.BandOrder", spec := "bandOrder", unfollowed := true, recurses := true, apart := false }
def BandOrderSaid : Prop := bandOrderRow.holds Try.pinned (OpenSpec.ofChange bandOrderSpec)

/-- ITS FALSE NEIGHBOUR: 'it returns false'. Refute it at one input. -/
def bandOrderWrong : ChangeSpec := { name := "bandOrder", fn := fun _ => fun
  | [d1, d2, d3] => { results := [.lit (.bool false)], args := [d1, d2, d3] }
  | _ => none }
def BandOrderWrongFalsely : Prop := bandOrderRow.holds Try.pinned (OpenSpec.ofChange bandOrderWrong)

/-- 'glazierlaw13.BandPlaces': WHATEVER THE INPUT: true; the input reads as it did. -/
def bandPlacesSpec : ChangeSpec := { name := "bandPlaces", fn := fun _ => fun
  | [d] => { results := [.lit (.bool true)], args := [d] }
  | _ => none }
def bandPlacesRow : OpenClaim := { program := "ytifpcjnjfdjcdaa", sum := "9ec214ffe6697a161b1a2fce60f272cdf7267c9f691fd4ae7a16394c1a5167ea", func := "glazier/glazierlaw13.BandPlaces", spec := "bandPlaces", unfollowed := true, recurses := true, apart := false }
def BandPlacesSaid : Prop := bandPlacesRow.holds Try.pinned (OpenSpec.ofChange bandPlacesSpec)

/-- ITS FALSE NEIGHBOUR: 'it returns false'. Refute it at one input. -/
def bandPlacesWrong : ChangeSpec := { name := "bandPlaces", fn := fun _ => fun
  | [d] => { results := [.lit (.bool false)], args := [d] }
  | _ => none }
def BandPlacesWrongFalsely : Prop := bandPlacesRow.holds Try.pinned (OpenSpec.ofChange bandPlacesWrong)

/-- 'glazierlaw13.BandParts': WHATEVER THE INPUT: true; the input reads as it did. -/
def bandPartsSpec : ChangeSpec := { name := "bandParts", fn := fun _ => fun
  | [d] => { results := [.lit (.bool true)], args := [d] }
  | _ => none }
def bandPartsRow : OpenClaim := { program := "ytifpcjnjfdjcdaa", sum := "9ec214ffe6697a161b1a2fce60f272cdf7267c9f691fd4ae7a16394c1a5167ea", func := "glazier/glazierlaw13.BandParts", spec := "bandParts", unfollowed := true, recurses := true, apart := false }
def BandPartsSaid : Prop := bandPartsRow.holds Try.pinned (OpenSpec.ofChange bandPartsSpec)

/-- ITS FALSE NEIGHBOUR: 'it returns false'. Refute it at one input. -/
def bandPartsWrong : ChangeSpec := { name := "bandParts", fn := fun _ => fun
  | [d] => { results := [.lit (.bool false)], args := [d] }
  | _ => none }
def BandPartsWrongFalsely : Prop := bandPartsRow.holds Try.pinned (OpenSpec.ofChange bandPartsWrong)

/-- 'glazierlaw13.BandTells': WHATEVER THE INPUT: true; the input reads as it did. -/
def bandTellsSpec : ChangeSpec := { name := "bandTells", fn := fun _ => fun
  | [d1, d2, d3] => { results := [.lit (.bool true)], args := [d1, d2, d3] }
  | _ => none }
def bandTellsRow : OpenClaim := { program := "ytifpcjnjfdjcdaa", sum := "9ec214ffe6697a161b1a2fce60f272cdf7267c9f691fd4ae7a16394c1a5167ea", func := "glazier/glazierlaw13.BandTells", spec := "bandTells", unfollowed := true, recurses := true, apart := false }
def BandTellsSaid : Prop := bandTellsRow.holds Try.pinned (OpenSpec.ofChange bandTellsSpec)

/-- ITS FALSE NEIGHBOUR: 'it returns false'. Refute it at one input. -/
def bandTellsWrong : ChangeSpec := { name := "bandTells", fn := fun _ => fun
  | [d1, d2, d3] => { results := [.lit (.bool false)], args := [d1, d2, d3] }
  | _ => none }
def BandTellsWrongFalsely : Prop := bandTellsRow.holds Try.pinned (OpenSpec.ofChange bandTellsWrong)

/-- 'glazierlaw13.BandGrows': WHATEVER THE INPUT: true; the input reads as it did. -/
def bandGrowsSpec : ChangeSpec := { name := "bandGrows", fn := fun _ => fun
  | [d1, d2] => { results := [.lit (.bool true)], args := [d1, d2] }
  | _ => none }
def bandGrowsRow : OpenClaim := { program := "ytifpcjnjfdjcdaa", sum := "9ec214ffe6697a161b1a2fce60f272cdf7267c9f691fd4ae7a16394c1a5167ea", func := "glazier/glazierlaw13.BandGrows", spec := "bandGrows", unfollowed := true, recurses := true, apart := false }
def BandGrowsSaid : Prop := bandGrowsRow.holds Try.pinned (OpenSpec.ofChange bandGrowsSpec)

/-- ITS FALSE NEIGHBOUR: 'it returns false'. Refute it at one input. -/
def bandGrowsWrong : ChangeSpec := { name := "bandGrows", fn := fun _ => fun
  | [d1, d2] => { results := [.lit (.bool false)], args := [d1, d2] }
  | _ => none }
def BandGrowsWrongFalsely : Prop := bandGrowsRow.holds Try.pinned (OpenSpec.ofChange bandGrowsWrong)

/- THE SECOND FORM. 'bulk': how many values and letters a reading holds, each counted each time it is reached (what is shared counts as often as it is met; a slice's spare places count too). A statement '..UptoSaid' is the law's where the arguments, and the package variables that the reading takes, are together of bulk at most 1048576: NARROWER than '..Said'. Prove '..Said' where nothing that the law and all that it calls make is longer than what came in: it says more and counts as full. Else prove '..UptoSaid'. A law counts once. -/
mutual
def uptoBulk {H : Type} : DataW H → Nat
  | .lit (.string bytes) => bytes.length + 1
  | .lit _ => 1
  | .nil => 1
  | .ptr d => uptoBulk d + 1
  | .slice elems spare => uptoBulkAll elems + uptoBulkAll spare + 1
  | .agg parts => uptoBulkAll parts + 1
  | .iface _ d => uptoBulk d + 1
  | .map entries => uptoBulkEntries entries + 1
  | .held _ => 1
def uptoBulkAll {H : Type} : List (DataW H) → Nat
  | [] => 0
  | d :: r => uptoBulk d + uptoBulkAll r
def uptoBulkEntries {H : Type} : List (Lit × DataW H) → Nat
  | [] => 0
  | x :: r => uptoBulkEntry x + uptoBulkEntries r
def uptoBulkEntry {H : Type} : Lit × DataW H → Nat
  | (.string bytes, d) => bytes.length + uptoBulk d + 1
  | (_, d) => uptoBulk d + 1
 end
def uptoSmall : (H : Type) → List (DataW H) → Bool := fun _ ds => decide (uptoBulkAll ds ≤ 1048576)
def OpenSpec.upto (s : _root_.Go.ChangeSpec) : _root_.Go.OpenSpec := { _root_.Go.OpenSpec.ofChange s with cond := some uptoSmall }

/-- 'glazierlaw13.BandSames', WHERE WHAT IT READS IS OF BULK AT MOST 1048576: true; the input reads as it did. -/
def bandSamesUptoRow : OpenClaim := { program := "ytifpcjnjfdjcdaa", sum := "9ec214ffe6697a161b1a2fce60f272cdf7267c9f691fd4ae7a16394c1a5167ea", func := "glazier/glazierlaw13.BandSames", spec := "bandSames", unfollowed := true, recurses := true, apart := false, narrowed := true }
def BandSamesUptoSaid : Prop := bandSamesUptoRow.holds Try.pinned (OpenSpec.upto bandSamesSpec)

/-- 'glazierlaw13.BandCanon', WHERE WHAT IT READS IS OF BULK AT MOST 1048576: true; the input reads as it did. -/
def bandCanonUptoRow : OpenClaim := { program := "ytifpcjnjfdjcdaa", sum := "9ec214ffe6697a161b1a2fce60f272cdf7267c9f691fd4ae7a16394c1a5167ea", func := "glazier/glazierlaw13.BandCanon", spec := "bandCanon", unfollowed := true, recurses := true, apart := false, narrowed := true }
def BandCanonUptoSaid : Prop := bandCanonUptoRow.holds Try.pinned (OpenSpec.upto bandCanonSpec)

/-- 'glazierlaw13.BandOrder', WHERE WHAT IT READS IS OF BULK AT MOST 1048576: true; the input reads as it did. -/
def bandOrderUptoRow : OpenClaim := { program := "ytifpcjnjfdjcdaa", sum := "9ec214ffe6697a161b1a2fce60f272cdf7267c9f691fd4ae7a16394c1a5167ea", func := "glazier/glazierlaw13.BandOrder", spec := "bandOrder", unfollowed := true, recurses := true, apart := false, narrowed := true }
def BandOrderUptoSaid : Prop := bandOrderUptoRow.holds Try.pinned (OpenSpec.upto bandOrderSpec)

/-- 'glazierlaw13.BandPlaces', WHERE WHAT IT READS IS OF BULK AT MOST 1048576: true; the input reads as it did. -/
def bandPlacesUptoRow : OpenClaim := { program := "ytifpcjnjfdjcdaa", sum := "9ec214ffe6697a161b1a2fce60f272cdf7267c9f691fd4ae7a16394c1a5167ea", func := "glazier/glazierlaw13.BandPlaces", spec := "bandPlaces", unfollowed := true, recurses := true, apart := false, narrowed := true }
def BandPlacesUptoSaid : Prop := bandPlacesUptoRow.holds Try.pinned (OpenSpec.upto bandPlacesSpec)

/-- 'glazierlaw13.BandParts', WHERE WHAT IT READS IS OF BULK AT MOST 1048576: true; the input reads as it did. -/
def bandPartsUptoRow : OpenClaim := { program := "ytifpcjnjfdjcdaa", sum := "9ec214ffe6697a161b1a2fce60f272cdf7267c9f691fd4ae7a16394c1a5167ea", func := "glazier/glazierlaw13.BandParts", spec := "bandParts", unfollowed := true, recurses := true, apart := false, narrowed := true }
def BandPartsUptoSaid : Prop := bandPartsUptoRow.holds Try.pinned (OpenSpec.upto bandPartsSpec)

/-- 'glazierlaw13.BandTells', WHERE WHAT IT READS IS OF BULK AT MOST 1048576: true; the input reads as it did. -/
def bandTellsUptoRow : OpenClaim := { program := "ytifpcjnjfdjcdaa", sum := "9ec214ffe6697a161b1a2fce60f272cdf7267c9f691fd4ae7a16394c1a5167ea", func := "glazier/glazierlaw13.BandTells", spec := "bandTells", unfollowed := true, recurses := true, apart := false, narrowed := true }
def BandTellsUptoSaid : Prop := bandTellsUptoRow.holds Try.pinned (OpenSpec.upto bandTellsSpec)

/-- 'glazierlaw13.BandGrows', WHERE WHAT IT READS IS OF BULK AT MOST 1048576: true; the input reads as it did. -/
def bandGrowsUptoRow : OpenClaim := { program := "ytifpcjnjfdjcdaa", sum := "9ec214ffe6697a161b1a2fce60f272cdf7267c9f691fd4ae7a16394c1a5167ea", func := "glazier/glazierlaw13.BandGrows", spec := "bandGrows", unfollowed := true, recurses := true, apart := false, narrowed := true }
def BandGrowsUptoSaid : Prop := bandGrowsUptoRow.holds Try.pinned (OpenSpec.upto bandGrowsSpec)

end Rows
end Go.Proofs.Ytifpcjnjfdjcdaa
