/- 'PropFull' answers true for every input of the bound bulk and leaves what came in as it was. No condition. -/
import Derived.Test.YtlnpelohdamklaaVR3
import Derived.Test.YtlnpelohdamklaaP14
namespace Go.Proofs.Ytlnpelohdamklaa.propFullDone
open Go Go.VM Go.RowKit Go.ChangeShapes Go.WideShapes Go.ChangeAt
set_option linter.unusedVariables false
set_option linter.unusedSimpArgs false
theorem own : ownKnob Try.prog.godebug = none := by kernel_rfl
theorem laidOut : laidOutB Try.prog = true := by kernel_rfl
set_option maxRecDepth 100000 in
theorem shapes : ([5, 29] : List Nat).map (shOf Try.prog 20) = ([.int .u8, .int .u16] : List Sh).map some := by kernel_rfl
set_option maxRecDepth 100000 in
theorem contract (H : Type) (enc : TypeId × Value → H) (W : World) (base : Nat) (args : Array Value) (ds gs : List (DataW H)) (before : List MemPlace)
    (hval : ∀ (j : Nat) t v, Try.f5.params[j]? = some t → args[j]? = some v → Value.okWide Try.prog W .any base t v)
    (hW : DataW.Whole enc Try.prog Try.f5.params.toList Rows.propFullSpec.vars false W args.toList ds gs before) (hk : Rows.uptoSmall H (ds ++ gs) = true) :
    Calls Try.prog 5 args W fun e W' => ∃ v, e = .returned v ∧ Rows.propFullSpec.post enc Try.prog Try.f5 false true false false W args v W' := by
  have hW' := hW
  obtain ⟨p, q, hA, hV, rfl, hfz, hnd⟩ := hW
  rw [Try.params5] at hA hval
  obtain ⟨rfl, rfl⟩ := trodVars_none hV
  have hlen := trodAll_len hA
  obtain ⟨d1, d2, rfl⟩ := ds2 hlen
  have hb : ∀ d ∈ ([d1, d2] : List (DataW H)), Sm 1048576 d := fun d hd => .inr (Nat.le_trans (bulk_le hd) (by
    have h : Rows.uptoBulkAll ([d1, d2] ++ []) ≤ 1048576 := of_decide_eq_true hk
    rwa [List.append_nil] at h))
  refine (row_walk (ts := [5, 29]) shapes full_row hA (fun j t v h1 h2 => hval j t v (by simpa using h1) (by simpa using h2)) hb laidOut (by kernel_rfl)).mono fun e W' ⟨he, bel, hts⟩ => ?_
  subst he
  exact ⟨_, rfl, _, _, _, [], _, [], hW', trodAll_mk1 (shut_bool Try.underlying4 _), hts, rfl, bel.frame _, fun h => by cases h⟩
set_option maxRecDepth 100000 in
theorem lifted (os : Os) (started : os.Started) (H : Type) (enc : TypeId × Value → H) (F : Stop.Interp) :
    ReturnsInHanded {} Try.checked os 5 .any ((Rows.OpenSpec.upto Rows.propFullSpec).pre6 enc Try.prog Try.f5 Rows.propFullUptoRow.domain false) (((Rows.OpenSpec.upto Rows.propFullSpec).at F).post enc Try.prog Try.f5 false true false false) := by
  refine returnsInHanded_of_cond (C := Try.checked) (s := (Rows.OpenSpec.upto Rows.propFullSpec)) (k := Rows.uptoSmall) rfl own started (by kernel_rfl) Try.func5
    (OpenSpec.witness (enc := enc) (C := Try.checked) (s := (Rows.OpenSpec.upto Rows.propFullSpec)) (k := Rows.uptoSmall) rfl false ⟨#[], #[.int .u8 0, .int .u16 0], []⟩ 8 (by kernel_rfl) (by kernel_rfl) (by kernel_rfl)
      (x := ([.lit (.int .u8 0), .lit (.int .u16 0)], [], [])) (by kernel_rfl) rfl (by kernel_rfl)) ?_
  intro W base args ds gs before hval hW _ hk _
  exact contract H enc W base args ds gs before hval hW hk
theorem proved : Rows.PropFullUptoSaid :=
  OpenClaim.holds_of_cond 5 Try.f5 rfl rfl rfl rfl rfl rfl rfl ⟨rfl, rfl, rfl, rfl, rfl⟩ rfl rfl rfl rfl rfl (by kernel_rfl) Try.func5 (by kernel_rfl)
    (of_decide_eq_true (by kernel_rfl)) (by unfold Func.isWrapper; first | (rw [if_pos (by decide +kernel)]; kernel_rfl) | (rw [if_neg (by decide +kernel)]; exact ⟨rfl, rfl⟩))
    (fun os started H enc _ F => lifted os started H enc F)
#print axioms proved
end Go.Proofs.Ytlnpelohdamklaa.propFullDone
