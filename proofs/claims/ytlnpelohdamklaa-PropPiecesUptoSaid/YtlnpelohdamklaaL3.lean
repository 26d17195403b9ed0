import Derived.Test.YtlnpelohdamklaaL2
import Derived.Test.YtlnpelohdamklaaVR4
namespace Go.Proofs.Ytlnpelohdamklaa
open Go Go.VM
set_option linter.unusedVariables false
set_option linter.unusedSimpArgs false
theorem fit_ac {x : AV} (h : FitE 1048576 (.fld 1 (.int .i64) (.fld 1 (.int .i64) (.fld 4 (.fld 1 (.int .u32) (.fld 1 (.int .u32) (.fld 1 (.int .i64) (.fld 1 (.sl 1 (.int .i64)) (.nil))))) (.fld 1 (.int .u32) (.fld 1 (.int .i64) (.fld 1 (.int .i64) (.fld 1 (.bool) (.nil)))))))) x) :
    ∃ a : AC, x = a.enc ∧ a.p.data.length ≤ 1048576 ∧ (a.off ≤ 9223372036854775807 ∧ a.len ≤ 9223372036854775807) := by
  obtain ⟨_, rfl, _, _, rfl, _, ⟨kind, rfl, _⟩, _, _, rfl, _, ⟨mode, rfl, _⟩, _, _, rfl, _, ⟨_, _, rfl, _, ⟨name, rfl, _⟩, _, _, rfl, _, ⟨typ, rfl, _⟩, _, _, rfl, _, ⟨fmt, rfl, _⟩, _, _, rfl, _, hdat, rfl⟩, _, _, rfl, _, ⟨kt, rfl, _⟩, _, _, rfl, _, ⟨off, rfl, ho⟩, _, _, rfl, _, ⟨len, rfl, hn⟩, _, _, rfl, _, ⟨rm, rfl⟩, rfl⟩ := h
  obtain ⟨d, rfl, hd⟩ := fits_one rfl hdat
  obtain ⟨data, rfl, hl, _⟩ := fit_ints hd
  exact ⟨⟨kind, mode, ⟨name, typ, fmt, data⟩, kt, off, len, rm⟩, rfl, hl, (wf_i64 ho).2, (wf_i64 hn).2⟩
end Go.Proofs.Ytlnpelohdamklaa
