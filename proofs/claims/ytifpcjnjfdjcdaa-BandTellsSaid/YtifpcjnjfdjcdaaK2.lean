/- BandTells in the rows' words. No condition. -/
import Derived.Test.YtifpcjnjfdjcdaaK1
import Derived.Test.YtifpcjnjfdjcdaaB19
namespace Go.Proofs.Ytifpcjnjfdjcdaa
open Go Go.VM
set_option linter.unusedVariables false
set_option linter.unusedSimpArgs false
theorem tells_row : ∀ l, FitAll maxLen [.sl 4 (.fld 1 (.int .i64) (.fld 1 (.int .i64) (.fld 1 (.int .i64) (.fld 1 (.int .i64) (.nil))))), .int .i64, .int .i64] l → ACalls Try.prog 8 l [] (fun r h' => r = .val (.bool true)) := by
  rintro l ⟨x, _, rfl, hx, y, _, rfl, hy, z, _, rfl, hz, rfl⟩
  obtain ⟨ls, rfl, _, hl⟩ := fit_sl (f := RC.enc) hx (fun y hy => rc_fit hy)
  obtain ⟨n, rfl, _⟩ := fit_int hy
  obtain ⟨m, rfl, _⟩ := fit_int hz
  exact tells_c ls n m [] hl
end Go.Proofs.Ytifpcjnjfdjcdaa
