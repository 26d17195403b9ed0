/- What comes in: rectangles. BandSames, BandCanon in the rows' words. No condition. -/
import Derived.Test.YtifpcjnjfdjcdaaVR4
import Derived.Test.YtifpcjnjfdjcdaaB18
namespace Go.Proofs.Ytifpcjnjfdjcdaa
open Go Go.VM
set_option linter.unusedVariables false
set_option linter.unusedSimpArgs false
theorem rc_fit {N : Nat} {x : AV} (h : FitE N (.fld 1 (.int .i64) (.fld 1 (.int .i64) (.fld 1 (.int .i64) (.fld 1 (.int .i64) (.nil))))) x) : ∃ r : RC, x = r.enc ∧ r.ok := by
  obtain ⟨_, rfl, _, _, rfl, _, ⟨a, rfl, ha⟩, _, _, rfl, _, ⟨b, rfl, hb⟩, _, _, rfl, _, ⟨c, rfl, hc⟩, _, _, rfl, _, ⟨d, rfl, hd⟩, rfl⟩ := h
  exact ⟨⟨a, b, c, d⟩, rfl, wf_i64 ha, wf_i64 hb, wf_i64 hc, wf_i64 hd⟩
theorem sames_row : ∀ l, FitAll maxLen [.sl 4 (.fld 1 (.int .i64) (.fld 1 (.int .i64) (.fld 1 (.int .i64) (.fld 1 (.int .i64) (.nil))))), .sl 4 (.fld 1 (.int .i64) (.fld 1 (.int .i64) (.fld 1 (.int .i64) (.fld 1 (.int .i64) (.nil)))))] l → ACalls Try.prog 3 l [] (fun r h' => r = .val (.bool true)) := by
  rintro l ⟨x, _, rfl, hx, y, _, rfl, hy, rfl⟩
  obtain ⟨ls, rfl, _, hl⟩ := fit_sl (f := RC.enc) hx (fun y hy => rc_fit hy)
  obtain ⟨ms, rfl, _, hm⟩ := fit_sl (f := RC.enc) hy (fun y hy => rc_fit hy)
  exact sames_c ls ms [] hl hm
theorem canons_row : ∀ l, FitAll maxLen [.sl 4 (.fld 1 (.int .i64) (.fld 1 (.int .i64) (.fld 1 (.int .i64) (.fld 1 (.int .i64) (.nil)))))] l → ACalls Try.prog 4 l [] (fun r h' => r = .val (.bool true)) := by
  rintro l ⟨x, _, rfl, hx, rfl⟩
  obtain ⟨ls, rfl, _, hl⟩ := fit_sl (f := RC.enc) hx (fun y hy => rc_fit hy)
  exact canons_c ls [] hl
end Go.Proofs.Ytifpcjnjfdjcdaa
