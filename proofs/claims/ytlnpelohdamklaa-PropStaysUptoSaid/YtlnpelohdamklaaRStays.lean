/- 'PropStays' answers true for every input of the bound bulk and leaves what came in as it was. No condition. -/
import Derived.Test.YtlnpelohdamklaaVR3
import Derived.Test.YtlnpelohdamklaaP13
namespace Go.Proofs.Ytlnpelohdamklaa.propStaysDone
open Go Go.VM Go.RowKit Go.ChangeShapes Go.WideShapes Go.ChangeAt
set_option linter.unusedVariables false
set_option linter.unusedSimpArgs false
theorem own : ownKnob Try.prog.godebug = none := by kernel_rfl
theorem laidOut : laidOutB Try.prog = true := by kernel_rfl
set_option maxRecDepth 100000 in
theorem shapes : ([42, 44] : List Nat).map (shOf Try.prog 20) = ([.sl 10 (.fld 1 (.int .i64) (.fld 1 (.int .i64) (.fld 4 (.fld 1 (.int .u32) (.fld 1 (.int .u32) (.fld 1 (.int .i64) (.fld 1 (.sl 1 (.int .i64)) (.nil))))) (.fld 1 (.int .u32) (.fld 1 (.int .i64) (.fld 1 (.int .i64) (.fld 1 (.bool) (.nil)))))))), .fld 1 (.int .i64) (.fld 1 (.int .i64) (.fld 4 (.fld 1 (.int .u32) (.fld 1 (.int .u32) (.fld 1 (.int .i64) (.fld 1 (.sl 1 (.int .i64)) (.nil))))) (.fld 1 (.int .u32) (.fld 1 (.int .i64) (.fld 1 (.int .i64) (.fld 1 (.bool) (.nil)))))))] : List Sh).map some := by kernel_rfl
set_option maxRecDepth 100000 in
theorem contract (H : Type) (enc : TypeId × Value → H) (W : World) (base : Nat) (args : Array Value) (ds gs : List (DataW H)) (before : List MemPlace)
    (hval : ∀ (j : Nat) t v, Try.f7.params[j]? = some t → args[j]? = some v → Value.okWide Try.prog W .any base t v)
    (hW : DataW.Whole enc Try.prog Try.f7.params.toList Rows.propStaysSpec.vars false W args.toList ds gs before) (hk : Rows.uptoSmall H (ds ++ gs) = true) :
    Calls Try.prog 7 args W fun e W' => ∃ v, e = .returned v ∧ Rows.propStaysSpec.post enc Try.prog Try.f7 false true false false W args v W' := by
  have hW' := hW
  obtain ⟨p, q, hA, hV, rfl, hfz, hnd⟩ := hW
  rw [Try.params7] at hA hval
  obtain ⟨rfl, rfl⟩ := trodVars_none hV
  have hlen := trodAll_len hA
  obtain ⟨d1, d2, rfl⟩ := ds2 hlen
  have hb : ∀ d ∈ ([d1, d2] : List (DataW H)), Sm 1048576 d := fun d hd => .inr (Nat.le_trans (bulk_le hd) (by
    have h : Rows.uptoBulkAll ([d1, d2] ++ []) ≤ 1048576 := of_decide_eq_true hk
    rwa [List.append_nil] at h))
  refine (row_walk (ts := [42, 44]) shapes stays_row hA (fun j t v h1 h2 => hval j t v (by simpa using h1) (by simpa using h2)) hb laidOut (by kernel_rfl)).mono fun e W' ⟨he, bel, hts⟩ => ?_
  subst he
  exact ⟨_, rfl, _, _, _, [], _, [], hW', trodAll_mk1 (shut_bool Try.underlying4 _), hts, rfl, bel.frame _, fun h => by cases h⟩
set_option maxRecDepth 100000 in
theorem lifted (os : Os) (started : os.Started) (H : Type) (enc : TypeId × Value → H) (F : Stop.Interp) :
    ReturnsInHanded {} Try.checked os 7 .any ((Rows.OpenSpec.upto Rows.propStaysSpec).pre6 enc Try.prog Try.f7 Rows.propStaysUptoRow.domain false) (((Rows.OpenSpec.upto Rows.propStaysSpec).at F).post enc Try.prog Try.f7 false true false false) := by
  refine returnsInHanded_of_cond (C := Try.checked) (s := (Rows.OpenSpec.upto Rows.propStaysSpec)) (k := Rows.uptoSmall) rfl own started (by kernel_rfl) Try.func7
    (OpenSpec.witness (enc := enc) (C := Try.checked) (s := (Rows.OpenSpec.upto Rows.propStaysSpec)) (k := Rows.uptoSmall) rfl false ⟨#[], #[.slice none 0 0, .agg #[.int .i64 0, .int .i64 0, .int .u32 0, .int .u32 0, .int .i64 0, .slice none 0 0, .int .u32 0, .int .i64 0, .int .i64 0, .bool false]], []⟩ 8 (by kernel_rfl) (by kernel_rfl) (by kernel_rfl)
      (x := ([.nil, .agg [.lit (.int .i64 0), .lit (.int .i64 0), .agg [.lit (.int .u32 0), .lit (.int .u32 0), .lit (.int .i64 0), .nil], .lit (.int .u32 0), .lit (.int .i64 0), .lit (.int .i64 0), .lit (.bool false)]], [], [])) (by kernel_rfl) rfl (by kernel_rfl)) ?_
  intro W base args ds gs before hval hW _ hk _
  exact contract H enc W base args ds gs before hval hW hk
theorem proved : Rows.PropStaysUptoSaid :=
  OpenClaim.holds_of_cond 7 Try.f7 rfl rfl rfl rfl rfl rfl rfl ⟨rfl, rfl, rfl, rfl, rfl⟩ rfl rfl rfl rfl rfl (by kernel_rfl) Try.func7 (by kernel_rfl)
    (of_decide_eq_true (by kernel_rfl)) (by unfold Func.isWrapper; first | (rw [if_pos (by decide +kernel)]; kernel_rfl) | (rw [if_neg (by decide +kernel)]; exact ⟨rfl, rfl⟩))
    (fun os started H enc _ F => lifted os started H enc F)
#print axioms proved
end Go.Proofs.Ytlnpelohdamklaa.propStaysDone
