/- ArcMoves in the rows' words. No condition. -/
import Derived.Test.YtmkpffckhdofbaaA15
import Derived.Test.YtmkpffckhdofbaaA11
namespace Go.Proofs.Ytmkpffckhdofbaa
open Go Go.VM
set_option linter.unusedVariables false
set_option linter.unusedSimpArgs false
theorem moves_row : ∀ l, FitAll maxLen [.fld 1 (.int .i16) (.fld 1 (.int .i16) (.fld 1 (.int .u8) (.fld 1 (.int .u8) (.nil)))), .int .i8, .int .i8] l → ACalls Try.prog 7 l [] (fun r h' => r = .val (.bool true)) := by
  rintro l ⟨x, _, rfl, hx, y, _, rfl, hy, z, _, rfl, hz, rfl⟩
  obtain ⟨o, rfl, ho⟩ := ov_fit hx
  obtain ⟨a, rfl, ha⟩ := fit_int hy
  obtain ⟨c, rfl, hc⟩ := fit_int hz
  exact moves_c o a c ho (wf_i8 ha) (wf_i8 hc)
end Go.Proofs.Ytmkpffckhdofbaa
