/-
  No cell of these rows narrows 'for every input' (looked for: loops, veiled, ifaces, maps, wideKeys, modest, calm, conditions, laid).
  DERIVED. THE GIVEN ROWS OF THIS SEAT. 3 by the template 'for every input the law returns true; each argument reads behind the call as it read before'; 0 by the template 'total and deterministic' (their statements: YtbknacpdcdkjiaaGreatTotals.lean).
  GIVEN WITH THE SEED: the statements are not yours to turn. If you find one false, say at which input.
  Laid BY PROGRAM, IN A SANDBOX (cutbox-rows.mjs): the forced cells as the released guide's own fill.sh prints them over the translation 2d5281695cafb698… (all of the seat's roots in one cut). By AI agents, Wed Nov 11 2026. No macro, syntax, notation, axiom, sorry.
-/
import Derived.Test.YtbknacpdcdkjiaaGreatChecked
import GoSem.Claim
import GoSem.ClaimJoined
import GoSem.ClaimMapViews
import Derived.JoinedTies
import Derived.KernelRfl
namespace Go.Proofs.YtbknacpdcdkjiaaGreat
/- THE CELL 'sum', in the pinned program and in every row, IS THE sha256 OF THE DUMP (.gsa) THAT YtbknacpdcdkjiaaGreatProg.lean LOADS. Nothing in Lean hashes anything: it is a label: what it is worth is what the hold of that sum in a sandbox is worth. -/
noncomputable def Tryz.pinned : Pinned := { name := "ytbknacpdcdkjiaagreat", sum := "2d5281695cafb6985d23bcf7afd5f2d0767cbfdf349f8ba82e4d79a2e1cb4599", checked := Tryz.checked }
namespace Rows
def none {H : Type} : Left H := { results := [], args := [] }

/-- 'glaziertop.TopFocus': WHATEVER THE INPUT: true; the input reads as it did. -/
def topFocusSpec : ChangeSpec := { name := "topFocus", fn := fun _ => fun
  | [d1, d2, d3, d4, d5, d6] => { results := [.lit (.bool true)], args := [d1, d2, d3, d4, d5, d6] }
  | _ => none }
def topFocusRow : OpenClaim := { program := "ytbknacpdcdkjiaagreat", sum := "2d5281695cafb6985d23bcf7afd5f2d0767cbfdf349f8ba82e4d79a2e1cb4599", func := "glazier/glaziertop.TopFocus", spec := "topFocus", inPlace := ["maps.clone"], unfollowed := true, recurses := true, plainKeys := false, apart := false }
def TopFocusSaid : Prop := topFocusRow.holds Tryz.pinned (OpenSpec.ofChange topFocusSpec)

/-- ITS FALSE NEIGHBOUR: 'it returns false'. Refute it at one input. -/
def topFocusWrong : ChangeSpec := { name := "topFocus", fn := fun _ => fun
  | [d1, d2, d3, d4, d5, d6] => { results := [.lit (.bool false)], args := [d1, d2, d3, d4, d5, d6] }
  | _ => none }
def TopFocusWrongFalsely : Prop := topFocusRow.holds Tryz.pinned (OpenSpec.ofChange topFocusWrong)

/-- 'glaziertop.TopWays': WHATEVER THE INPUT: true; the input reads as it did. -/
def topWaysSpec : ChangeSpec := { name := "topWays", fn := fun _ => fun
  | [d1, d2] => { results := [.lit (.bool true)], args := [d1, d2] }
  | _ => none }
def topWaysRow : OpenClaim := { program := "ytbknacpdcdkjiaagreat", sum := "2d5281695cafb6985d23bcf7afd5f2d0767cbfdf349f8ba82e4d79a2e1cb4599", func := "glazier/glaziertop.TopWays", spec := "topWays", inPlace := ["maps.clone"], unfollowed := true, recurses := true, plainKeys := false, apart := false }
def TopWaysSaid : Prop := topWaysRow.holds Tryz.pinned (OpenSpec.ofChange topWaysSpec)

/-- ITS FALSE NEIGHBOUR: 'it returns false'. Refute it at one input. -/
def topWaysWrong : ChangeSpec := { name := "topWays", fn := fun _ => fun
  | [d1, d2] => { results := [.lit (.bool false)], args := [d1, d2] }
  | _ => none }
def TopWaysWrongFalsely : Prop := topWaysRow.holds Tryz.pinned (OpenSpec.ofChange topWaysWrong)

/-- 'glaziertop.TopOnce': WHATEVER THE INPUT: true; the input reads as it did. -/
def topOnceSpec : ChangeSpec := { name := "topOnce", fn := fun _ => fun
  | [d1, d2] => { results := [.lit (.bool true)], args := [d1, d2] }
  | _ => none }
def topOnceRow : OpenClaim := { program := "ytbknacpdcdkjiaagreat", sum := "2d5281695cafb6985d23bcf7afd5f2d0767cbfdf349f8ba82e4d79a2e1cb4599", func := "glazier/glaziertop.TopOnce", spec := "topOnce", inPlace := ["maps.clone"], unfollowed := true, recurses := true, plainKeys := false, apart := false }
def TopOnceSaid : Prop := topOnceRow.holds Tryz.pinned (OpenSpec.ofChange topOnceSpec)

/-- ITS FALSE NEIGHBOUR: 'it returns false'. Refute it at one input. -/
def topOnceWrong : ChangeSpec := { name := "topOnce", fn := fun _ => fun
  | [d1, d2] => { results := [.lit (.bool false)], args := [d1, d2] }
  | _ => none }
def TopOnceWrongFalsely : Prop := topOnceRow.holds Tryz.pinned (OpenSpec.ofChange topOnceWrong)

/- THE SECOND FORM. 'bulk': how many values and letters a reading holds, each counted each time it is reached (what is shared counts as often as it is met; a slice's spare places count too). A statement '..UptoSaid' is the law's where the arguments, and the package variables that the reading takes, are together of bulk at most 1048576: NARROWER than '..Said'. Prove '..Said' where nothing that the law and all that it calls make is longer than what came in: it says more and counts as full. Else prove '..UptoSaid'. A law counts once. -/
mutual
def uptoBulk {H : Type} : DataW H → Nat
  | .lit (.string bytes) => bytes.length + 1
  | .lit _ => 1
  | .nil => 1
  | .ptr d => uptoBulk d + 1
  | .slice elems spare => uptoBulkAll elems + uptoBulkAll spare + 1
  | .agg parts => uptoBulkAll parts + 1
  | .iface _ d => uptoBulk d + 1
  | .map entries => uptoBulkEntries entries + 1
  | .held _ => 1
def uptoBulkAll {H : Type} : List (DataW H) → Nat
  | [] => 0
  | d :: r => uptoBulk d + uptoBulkAll r
def uptoBulkEntries {H : Type} : List (Lit × DataW H) → Nat
  | [] => 0
  | x :: r => uptoBulkEntry x + uptoBulkEntries r
def uptoBulkEntry {H : Type} : Lit × DataW H → Nat
  | (.string bytes, d) => bytes.length + uptoBulk d + 1
  | (_, d) => uptoBulk d + 1
 end
def uptoSmall : (H : Type) → List (DataW H) → Bool := fun _ ds => decide (uptoBulkAll ds ≤ 1048576)
def OpenSpec.upto (s : _root_.Go.ChangeSpec) : _root_.Go.OpenSpec := { _root_.Go.OpenSpec.ofChange s with cond := some uptoSmall }

/-- 'glaziertop.TopFocus', WHERE WHAT IT READS IS OF BULK AT MOST 1048576: true; the input reads as it did. -/
def topFocusUptoRow : OpenClaim := { program := "ytbknacpdcdkjiaagreat", sum := "2d5281695cafb6985d23bcf7afd5f2d0767cbfdf349f8ba82e4d79a2e1cb4599", func := "glazier/glaziertop.TopFocus", spec := "topFocus", inPlace := ["maps.clone"], unfollowed := true, recurses := true, plainKeys := false, apart := false, narrowed := true }
def TopFocusUptoSaid : Prop := topFocusUptoRow.holds Tryz.pinned (OpenSpec.upto topFocusSpec)

/-- 'glaziertop.TopWays', WHERE WHAT IT READS IS OF BULK AT MOST 1048576: true; the input reads as it did. -/
def topWaysUptoRow : OpenClaim := { program := "ytbknacpdcdkjiaagreat", sum := "2d5281695cafb6985d23bcf7afd5f2d0767cbfdf349f8ba82e4d79a2e1cb4599", func := "glazier/glaziertop.TopWays", spec := "topWays", inPlace := ["maps.clone"], unfollowed := true, recurses := true, plainKeys := false, apart := false, narrowed := true }
def TopWaysUptoSaid : Prop := topWaysUptoRow.holds Tryz.pinned (OpenSpec.upto topWaysSpec)

/-- 'glaziertop.TopOnce', WHERE WHAT IT READS IS OF BULK AT MOST 1048576: true; the input reads as it did. -/
def topOnceUptoRow : OpenClaim := { program := "ytbknacpdcdkjiaagreat", sum := "2d5281695cafb6985d23bcf7afd5f2d0767cbfdf349f8ba82e4d79a2e1cb4599", func := "glazier/glaziertop.TopOnce", spec := "topOnce", inPlace := ["maps.clone"], unfollowed := true, recurses := true, plainKeys := false, apart := false, narrowed := true }
def TopOnceUptoSaid : Prop := topOnceUptoRow.holds Tryz.pinned (OpenSpec.upto topOnceSpec)

end Rows
end Go.Proofs.YtbknacpdcdkjiaaGreat
