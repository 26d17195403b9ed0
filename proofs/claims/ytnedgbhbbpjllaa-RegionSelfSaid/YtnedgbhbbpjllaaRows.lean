/-
  No cell of these rows narrows 'for every input' (looked for: loops, veiled, ifaces, maps, wideKeys, modest, calm, conditions, laid).
  DERIVED. THE GIVEN ROWS OF THIS SEAT. 7 by the template 'for every input the law returns true; each argument reads behind the call as it read before'; 0 by the template 'total and deterministic' (their statements: YtnedgbhbbpjllaaTotals.lean).
  GIVEN WITH THE SEED: the statements are not yours to turn. If you find one false, say at which input.
  Laid BY PROGRAM, IN A SANDBOX (cutbox-rows.mjs): the forced cells as the released guide's own fill.sh prints them over the translation 6c352f464fb39400… (all of the seat's roots in one cut). By AI agents, Wed Nov 11 2026. No macro, syntax, notation, axiom, sorry.
-/
import Derived.Test.YtnedgbhbbpjllaaChecked
import GoSem.Claim
import GoSem.ClaimJoined
import GoSem.ClaimMapViews
import Derived.JoinedTies
import Derived.KernelRfl
namespace Go.Proofs.Ytnedgbhbbpjllaa
/- THE CELL 'sum', in the pinned program and in every row, IS THE sha256 OF THE DUMP (.gsa) THAT YtnedgbhbbpjllaaProg.lean LOADS. Nothing in Lean hashes anything: it is a label: what it is worth is what the hold of that sum in a sandbox is worth. -/
noncomputable def Try.pinned : Pinned := { name := "ytnedgbhbbpjllaa", sum := "6c352f464fb394009dfdf9aee6047cb86379305107c8678eb360256de1912e82", checked := Try.checked }
namespace Rows
def none {H : Type} : Left H := { results := [], args := [] }

/-- 'glazierlaw14.RegionInside': WHATEVER THE INPUT: true; the input reads as it did. -/
def regionInsideSpec : ChangeSpec := { name := "regionInside", fn := fun _ => fun
  | [d1, d2] => { results := [.lit (.bool true)], args := [d1, d2] }
  | _ => none }
def regionInsideRow : OpenClaim := { program := "ytnedgbhbbpjllaa", sum := "6c352f464fb394009dfdf9aee6047cb86379305107c8678eb360256de1912e82", func := "glazier/glazierlaw14.RegionInside", spec := "regionInside", unfollowed := true, recurses := true, apart := false }
def RegionInsideSaid : Prop := regionInsideRow.holds Try.pinned (OpenSpec.ofChange regionInsideSpec)

/-- ITS FALSE NEIGHBOUR: 'it returns false'. Refute it at one input. -/
def regionInsideWrong : ChangeSpec := { name := "regionInside", fn := fun _ => fun
  | [d1, d2] => { results := [.lit (.bool false)], args := [d1, d2] }
  | _ => none }
def RegionInsideWrongFalsely : Prop := regionInsideRow.holds Try.pinned (OpenSpec.ofChange regionInsideWrong)

/-- 'glazierlaw14.RegionLaws': WHATEVER THE INPUT: true; the input reads as it did. -/
def regionLawsSpec : ChangeSpec := { name := "regionLaws", fn := fun _ => fun
  | [d1, d2, d3] => { results := [.lit (.bool true)], args := [d1, d2, d3] }
  | _ => none }
def regionLawsRow : OpenClaim := { program := "ytnedgbhbbpjllaa", sum := "6c352f464fb394009dfdf9aee6047cb86379305107c8678eb360256de1912e82", func := "glazier/glazierlaw14.RegionLaws", spec := "regionLaws", unfollowed := true, recurses := true, apart := false }
def RegionLawsSaid : Prop := regionLawsRow.holds Try.pinned (OpenSpec.ofChange regionLawsSpec)

/-- ITS FALSE NEIGHBOUR: 'it returns false'. Refute it at one input. -/
def regionLawsWrong : ChangeSpec := { name := "regionLaws", fn := fun _ => fun
  | [d1, d2, d3] => { results := [.lit (.bool false)], args := [d1, d2, d3] }
  | _ => none }
def RegionLawsWrongFalsely : Prop := regionLawsRow.holds Try.pinned (OpenSpec.ofChange regionLawsWrong)

/-- 'glazierlaw14.RegionSelf': WHATEVER THE INPUT: true; the input reads as it did. -/
def regionSelfSpec : ChangeSpec := { name := "regionSelf", fn := fun _ => fun
  | [d1, d2] => { results := [.lit (.bool true)], args := [d1, d2] }
  | _ => none }
def regionSelfRow : OpenClaim := { program := "ytnedgbhbbpjllaa", sum := "6c352f464fb394009dfdf9aee6047cb86379305107c8678eb360256de1912e82", func := "glazier/glazierlaw14.RegionSelf", spec := "regionSelf", unfollowed := true, recurses := true, apart := false }
def RegionSelfSaid : Prop := regionSelfRow.holds Try.pinned (OpenSpec.ofChange regionSelfSpec)

/-- ITS FALSE NEIGHBOUR: 'it returns false'. Refute it at one input. -/
def regionSelfWrong : ChangeSpec := { name := "regionSelf", fn := fun _ => fun
  | [d1, d2] => { results := [.lit (.bool false)], args := [d1, d2] }
  | _ => none }
def RegionSelfWrongFalsely : Prop := regionSelfRow.holds Try.pinned (OpenSpec.ofChange regionSelfWrong)

/-- 'glazierlaw14.RegionSets': WHATEVER THE INPUT: true; the input reads as it did. -/
def regionSetsSpec : ChangeSpec := { name := "regionSets", fn := fun _ => fun
  | [d1, d2] => { results := [.lit (.bool true)], args := [d1, d2] }
  | _ => none }
def regionSetsRow : OpenClaim := { program := "ytnedgbhbbpjllaa", sum := "6c352f464fb394009dfdf9aee6047cb86379305107c8678eb360256de1912e82", func := "glazier/glazierlaw14.RegionSets", spec := "regionSets", unfollowed := true, recurses := true, apart := false }
def RegionSetsSaid : Prop := regionSetsRow.holds Try.pinned (OpenSpec.ofChange regionSetsSpec)

/-- ITS FALSE NEIGHBOUR: 'it returns false'. Refute it at one input. -/
def regionSetsWrong : ChangeSpec := { name := "regionSets", fn := fun _ => fun
  | [d1, d2] => { results := [.lit (.bool false)], args := [d1, d2] }
  | _ => none }
def RegionSetsWrongFalsely : Prop := regionSetsRow.holds Try.pinned (OpenSpec.ofChange regionSetsWrong)

/-- 'glazierlaw14.RegionWithin': WHATEVER THE INPUT: true; the input reads as it did. -/
def regionWithinSpec : ChangeSpec := { name := "regionWithin", fn := fun _ => fun
  | [d1, d2] => { results := [.lit (.bool true)], args := [d1, d2] }
  | _ => none }
def regionWithinRow : OpenClaim := { program := "ytnedgbhbbpjllaa", sum := "6c352f464fb394009dfdf9aee6047cb86379305107c8678eb360256de1912e82", func := "glazier/glazierlaw14.RegionWithin", spec := "regionWithin", unfollowed := true, recurses := true, apart := false }
def RegionWithinSaid : Prop := regionWithinRow.holds Try.pinned (OpenSpec.ofChange regionWithinSpec)

/-- ITS FALSE NEIGHBOUR: 'it returns false'. Refute it at one input. -/
def regionWithinWrong : ChangeSpec := { name := "regionWithin", fn := fun _ => fun
  | [d1, d2] => { results := [.lit (.bool false)], args := [d1, d2] }
  | _ => none }
def RegionWithinWrongFalsely : Prop := regionWithinRow.holds Try.pinned (OpenSpec.ofChange regionWithinWrong)

/-- 'glazierlaw14.RegionFar': WHATEVER THE INPUT: true; the input reads as it did. -/
def regionFarSpec : ChangeSpec := { name := "regionFar", fn := fun _ => fun
  | [d1, d2, d3] => { results := [.lit (.bool true)], args := [d1, d2, d3] }
  | _ => none }
def regionFarRow : OpenClaim := { program := "ytnedgbhbbpjllaa", sum := "6c352f464fb394009dfdf9aee6047cb86379305107c8678eb360256de1912e82", func := "glazier/glazierlaw14.RegionFar", spec := "regionFar", unfollowed := true, recurses := true, apart := false }
def RegionFarSaid : Prop := regionFarRow.holds Try.pinned (OpenSpec.ofChange regionFarSpec)

/-- ITS FALSE NEIGHBOUR: 'it returns false'. Refute it at one input. -/
def regionFarWrong : ChangeSpec := { name := "regionFar", fn := fun _ => fun
  | [d1, d2, d3] => { results := [.lit (.bool false)], args := [d1, d2, d3] }
  | _ => none }
def RegionFarWrongFalsely : Prop := regionFarRow.holds Try.pinned (OpenSpec.ofChange regionFarWrong)

/-- 'glazierlaw14.RegionShifts': WHATEVER THE INPUT: true; the input reads as it did. -/
def regionShiftsSpec : ChangeSpec := { name := "regionShifts", fn := fun _ => fun
  | [d1, d2, d3] => { results := [.lit (.bool true)], args := [d1, d2, d3] }
  | _ => none }
def regionShiftsRow : OpenClaim := { program := "ytnedgbhbbpjllaa", sum := "6c352f464fb394009dfdf9aee6047cb86379305107c8678eb360256de1912e82", func := "glazier/glazierlaw14.RegionShifts", spec := "regionShifts", unfollowed := true, recurses := true, apart := false }
def RegionShiftsSaid : Prop := regionShiftsRow.holds Try.pinned (OpenSpec.ofChange regionShiftsSpec)

/-- ITS FALSE NEIGHBOUR: 'it returns false'. Refute it at one input. -/
def regionShiftsWrong : ChangeSpec := { name := "regionShifts", fn := fun _ => fun
  | [d1, d2, d3] => { results := [.lit (.bool false)], args := [d1, d2, d3] }
  | _ => none }
def RegionShiftsWrongFalsely : Prop := regionShiftsRow.holds Try.pinned (OpenSpec.ofChange regionShiftsWrong)

/- THE SECOND FORM. 'bulk': how many values and letters a reading holds, each counted each time it is reached (what is shared counts as often as it is met; a slice's spare places count too). A statement '..UptoSaid' is the law's where the arguments, and the package variables that the reading takes, are together of bulk at most 1048576: NARROWER than '..Said'. Prove '..Said' where nothing that the law and all that it calls make is longer than what came in: it says more and counts as full. Else prove '..UptoSaid'. A law counts once. -/
mutual
def uptoBulk {H : Type} : DataW H → Nat
  | .lit (.string bytes) => bytes.length + 1
  | .lit _ => 1
  | .nil => 1
  | .ptr d => uptoBulk d + 1
  | .slice elems spare => uptoBulkAll elems + uptoBulkAll spare + 1
  | .agg parts => uptoBulkAll parts + 1
  | .iface _ d => uptoBulk d + 1
  | .map entries => uptoBulkEntries entries + 1
  | .held _ => 1
def uptoBulkAll {H : Type} : List (DataW H) → Nat
  | [] => 0
  | d :: r => uptoBulk d + uptoBulkAll r
def uptoBulkEntries {H : Type} : List (Lit × DataW H) → Nat
  | [] => 0
  | x :: r => uptoBulkEntry x + uptoBulkEntries r
def uptoBulkEntry {H : Type} : Lit × DataW H → Nat
  | (.string bytes, d) => bytes.length + uptoBulk d + 1
  | (_, d) => uptoBulk d + 1
 end
def uptoSmall : (H : Type) → List (DataW H) → Bool := fun _ ds => decide (uptoBulkAll ds ≤ 1048576)
def OpenSpec.upto (s : _root_.Go.ChangeSpec) : _root_.Go.OpenSpec := { _root_.Go.OpenSpec.ofChange s with cond := some uptoSmall }

/-- 'glazierlaw14.RegionInside', WHERE WHAT IT READS IS OF BULK AT MOST 1048576: true; the input reads as it did. -/
def regionInsideUptoRow : OpenClaim := { program := "ytnedgbhbbpjllaa", sum := "6c352f464fb394009dfdf9aee6047cb86379305107c8678eb360256de1912e82", func := "glazier/glazierlaw14.RegionInside", spec := "regionInside", unfollowed := true, recurses := true, apart := false, narrowed := true }
def RegionInsideUptoSaid : Prop := regionInsideUptoRow.holds Try.pinned (OpenSpec.upto regionInsideSpec)

/-- 'glazierlaw14.RegionLaws', WHERE WHAT IT READS IS OF BULK AT MOST 1048576: true; the input reads as it did. -/
def regionLawsUptoRow : OpenClaim := { program := "ytnedgbhbbpjllaa", sum := "6c352f464fb394009dfdf9aee6047cb86379305107c8678eb360256de1912e82", func := "glazier/glazierlaw14.RegionLaws", spec := "regionLaws", unfollowed := true, recurses := true, apart := false, narrowed := true }
def RegionLawsUptoSaid : Prop := regionLawsUptoRow.holds Try.pinned (OpenSpec.upto regionLawsSpec)

/-- 'glazierlaw14.RegionSelf', WHERE WHAT IT READS IS OF BULK AT MOST 1048576: true; the input reads as it did. -/
def regionSelfUptoRow : OpenClaim := { program := "ytnedgbhbbpjllaa", sum := "6c352f464fb394009dfdf9aee6047cb86379305107c8678eb360256de1912e82", func := "glazier/glazierlaw14.RegionSelf", spec := "regionSelf", unfollowed := true, recurses := true, apart := false, narrowed := true }
def RegionSelfUptoSaid : Prop := regionSelfUptoRow.holds Try.pinned (OpenSpec.upto regionSelfSpec)

/-- 'glazierlaw14.RegionSets', WHERE WHAT IT READS IS OF BULK AT MOST 1048576: true; the input reads as it did. -/
def regionSetsUptoRow : OpenClaim := { program := "ytnedgbhbbpjllaa", sum := "6c352f464fb394009dfdf9aee6047cb86379305107c8678eb360256de1912e82", func := "glazier/glazierlaw14.RegionSets", spec := "regionSets", unfollowed := true, recurses := true, apart := false, narrowed := true }
def RegionSetsUptoSaid : Prop := regionSetsUptoRow.holds Try.pinned (OpenSpec.upto regionSetsSpec)

/-- 'glazierlaw14.RegionWithin', WHERE WHAT IT READS IS OF BULK AT MOST 1048576: true; the input reads as it did. -/
def regionWithinUptoRow : OpenClaim := { program := "ytnedgbhbbpjllaa", sum := "6c352f464fb394009dfdf9aee6047cb86379305107c8678eb360256de1912e82", func := "glazier/glazierlaw14.RegionWithin", spec := "regionWithin", unfollowed := true, recurses := true, apart := false, narrowed := true }
def RegionWithinUptoSaid : Prop := regionWithinUptoRow.holds Try.pinned (OpenSpec.upto regionWithinSpec)

/-- 'glazierlaw14.RegionFar', WHERE WHAT IT READS IS OF BULK AT MOST 1048576: true; the input reads as it did. -/
def regionFarUptoRow : OpenClaim := { program := "ytnedgbhbbpjllaa", sum := "6c352f464fb394009dfdf9aee6047cb86379305107c8678eb360256de1912e82", func := "glazier/glazierlaw14.RegionFar", spec := "regionFar", unfollowed := true, recurses := true, apart := false, narrowed := true }
def RegionFarUptoSaid : Prop := regionFarUptoRow.holds Try.pinned (OpenSpec.upto regionFarSpec)

/-- 'glazierlaw14.RegionShifts', WHERE WHAT IT READS IS OF BULK AT MOST 1048576: true; the input reads as it did. -/
def regionShiftsUptoRow : OpenClaim := { program := "ytnedgbhbbpjllaa", sum := "6c352f464fb394009dfdf9aee6047cb86379305107c8678eb360256de1912e82", func := "glazier/glazierlaw14.RegionShifts", spec := "regionShifts", unfollowed := true, recurses := true, apart := false, narrowed := true }
def RegionShiftsUptoSaid : Prop := regionShiftsUptoRow.holds Try.pinned (OpenSpec.upto regionShiftsSpec)

end Rows
end Go.Proofs.Ytnedgbhbbpjllaa
