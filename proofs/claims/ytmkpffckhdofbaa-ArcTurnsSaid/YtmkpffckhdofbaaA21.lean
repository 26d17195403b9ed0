/- ArcTurns in the rows' words. No condition. -/
import Derived.Test.YtmkpffckhdofbaaA15
import Derived.Test.YtmkpffckhdofbaaA12
namespace Go.Proofs.Ytmkpffckhdofbaa
open Go Go.VM
set_option linter.unusedVariables false
set_option linter.unusedSimpArgs false
theorem turns_row : ∀ l, FitAll maxLen [.fld 1 (.int .i16) (.fld 1 (.int .i16) (.fld 1 (.int .u8) (.fld 1 (.int .u8) (.nil))))] l → ACalls Try.prog 8 l [] (fun r h' => r = .val (.bool true)) := by
  rintro l ⟨x, _, rfl, hx, rfl⟩
  obtain ⟨o, rfl, ho⟩ := ov_fit hx
  exact turns_c o ho
end Go.Proofs.Ytmkpffckhdofbaa
