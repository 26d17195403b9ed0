/- ArcWrong in the rows' words. No condition. -/
import Derived.Test.YtmkpffckhdofbaaA15
import Derived.Test.YtmkpffckhdofbaaA8
namespace Go.Proofs.Ytmkpffckhdofbaa
open Go Go.VM
set_option linter.unusedVariables false
set_option linter.unusedSimpArgs false
theorem wrongs_row : ∀ l, FitAll maxLen [.fld 1 (.int .i64) (.fld 1 (.int .i64) (.fld 1 (.int .i64) (.fld 1 (.int .i64) (.nil))))] l → ACalls Try.prog 4 l [] (fun r h' => r = .val (.bool true)) := by
  rintro l ⟨x, _, rfl, hx, rfl⟩
  obtain ⟨c, rfl, hc⟩ := rc_fit hx
  exact wrongs_c c hc
end Go.Proofs.Ytmkpffckhdofbaa
