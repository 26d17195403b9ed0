/- What comes in at layer 14. No condition. -/
import Derived.Test.YtnedgbhbbpjllaaVR4
import Derived.Test.YtnedgbhbbpjllaaC8
namespace Go.Proofs.Ytnedgbhbbpjllaa
open Go Go.VM
set_option linter.unusedVariables false
set_option linter.unusedSimpArgs false
theorem rc_fit {N : Nat} {x : AV} (h : FitE N (.fld 1 (.int .i64) (.fld 1 (.int .i64) (.fld 1 (.int .i64) (.fld 1 (.int .i64) (.nil))))) x) : ∃ r : RC, x = r.enc ∧ r.ok := by
  obtain ⟨_, rfl, _, _, rfl, _, ⟨a, rfl, ha⟩, _, _, rfl, _, ⟨b, rfl, hb⟩, _, _, rfl, _, ⟨c, rfl, hc⟩, _, _, rfl, _, ⟨d, rfl, hd⟩, rfl⟩ := h
  exact ⟨⟨a, b, c, d⟩, rfl, wf_i64 ha, wf_i64 hb, wf_i64 hc, wf_i64 hd⟩
theorem sm_fit {N : Nat} {x : AV} (h : FitE N (.fld 1 (.int .u8) (.fld 1 (.int .u8) (.fld 1 (.int .u8) (.fld 1 (.int .u8) (.nil))))) x) : ∃ q : Sq, x = q.enc ∧ q.ok := by
  obtain ⟨_, rfl, _, _, rfl, _, ⟨a, rfl, ha⟩, _, _, rfl, _, ⟨b, rfl, hb⟩, _, _, rfl, _, ⟨c, rfl, hc⟩, _, _, rfl, _, ⟨d, rfl, hd⟩, rfl⟩ := h
  exact ⟨⟨a, b, c, d⟩, rfl, wf_u8 ha, wf_u8 hb, wf_u8 hc, wf_u8 hd⟩
end Go.Proofs.Ytnedgbhbbpjllaa
