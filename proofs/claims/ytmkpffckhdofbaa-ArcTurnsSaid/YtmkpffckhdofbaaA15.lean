/- What comes in at layer 21. No condition. -/
import Derived.Test.YtmkpffckhdofbaaVR4
import Derived.Test.YtmkpffckhdofbaaA7
namespace Go.Proofs.Ytmkpffckhdofbaa
open Go Go.VM
set_option linter.unusedVariables false
set_option linter.unusedSimpArgs false
theorem rc_fit {N : Nat} {x : AV} (h : FitE N (.fld 1 (.int .i64) (.fld 1 (.int .i64) (.fld 1 (.int .i64) (.fld 1 (.int .i64) (.nil))))) x) : ∃ r : RC, x = r.enc ∧ r.ok := by
  obtain ⟨_, rfl, _, _, rfl, _, ⟨a, rfl, ha⟩, _, _, rfl, _, ⟨b, rfl, hb⟩, _, _, rfl, _, ⟨c, rfl, hc⟩, _, _, rfl, _, ⟨d, rfl, hd⟩, rfl⟩ := h
  exact ⟨⟨a, b, c, d⟩, rfl, wf_i64 ha, wf_i64 hb, wf_i64 hc, wf_i64 hd⟩
theorem ov_fit {N : Nat} {x : AV} (h : FitE N (.fld 1 (.int .i16) (.fld 1 (.int .i16) (.fld 1 (.int .u8) (.fld 1 (.int .u8) (.nil))))) x) : ∃ o : Ov, x = o.enc ∧ o.ok := by
  obtain ⟨_, rfl, _, _, rfl, _, ⟨a, rfl, ha⟩, _, _, rfl, _, ⟨b, rfl, hb⟩, _, _, rfl, _, ⟨c, rfl, hc⟩, _, _, rfl, _, ⟨d, rfl, hd⟩, rfl⟩ := h
  exact ⟨⟨a, b, c, d⟩, rfl, ⟨wf_i16 ha, wf_i16 hb⟩, wf_u8 hc, wf_u8 hd⟩
end Go.Proofs.Ytmkpffckhdofbaa
