/- ArcSpans in the rows' words. No condition. -/
import Derived.Test.YtmkpffckhdofbaaA15
import Derived.Test.YtmkpffckhdofbaaA9
namespace Go.Proofs.Ytmkpffckhdofbaa
open Go Go.VM
set_option linter.unusedVariables false
set_option linter.unusedSimpArgs false
theorem spans_row : ∀ l, FitAll maxLen [.fld 1 (.int .i16) (.fld 1 (.int .i16) (.fld 1 (.int .u8) (.fld 1 (.int .u8) (.nil)))), .int .i16] l → ACalls Try.prog 3 l [] (fun r h' => r = .val (.bool true)) := by
  rintro l ⟨x, _, rfl, hx, y, _, rfl, hy, rfl⟩
  obtain ⟨o, rfl, ho⟩ := ov_fit hx
  obtain ⟨a, rfl, ha⟩ := fit_int hy
  exact aspans_c o a ho (wf_i16 ha)
end Go.Proofs.Ytmkpffckhdofbaa
