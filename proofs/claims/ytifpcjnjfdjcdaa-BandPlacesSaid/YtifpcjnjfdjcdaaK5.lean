/- BandPlaces in the rows' words. No condition. -/
import Derived.Test.YtifpcjnjfdjcdaaK1
import Derived.Test.YtifpcjnjfdjcdaaB23
namespace Go.Proofs.Ytifpcjnjfdjcdaa
open Go Go.VM
set_option linter.unusedVariables false
set_option linter.unusedSimpArgs false
theorem q4_fit {N : Nat} {x : AV} (h : FitE N (.fld 1 (.int .u8) (.fld 1 (.int .u8) (.fld 1 (.int .u8) (.fld 1 (.int .u8) (.nil))))) x) : ∃ q : Q4, x = q.enc ∧ q.ok := by
  obtain ⟨_, rfl, _, _, rfl, _, ⟨a, rfl, ha⟩, _, _, rfl, _, ⟨b, rfl, hb⟩, _, _, rfl, _, ⟨c, rfl, hc⟩, _, _, rfl, _, ⟨d, rfl, hd⟩, rfl⟩ := h
  exact ⟨⟨a, b, c, d⟩, rfl, wf_u8 ha, wf_u8 hb, wf_u8 hc, wf_u8 hd⟩
theorem places_row : ∀ l, FitAll maxLen [.sl 4 (.fld 1 (.int .u8) (.fld 1 (.int .u8) (.fld 1 (.int .u8) (.fld 1 (.int .u8) (.nil)))))] l → ACalls Try.prog 6 l [] (fun r h' => r = .val (.bool true)) := by
  rintro l ⟨x, _, rfl, hx, rfl⟩
  obtain ⟨ls, rfl, _, hl⟩ := fit_sl (f := Q4.enc) hx (fun y hy => q4_fit hy)
  exact places_c ls [] hl
end Go.Proofs.Ytifpcjnjfdjcdaa
