/- BandGrows in the rows' words. No condition. -/
import Derived.Test.YtifpcjnjfdjcdaaK1
import Derived.Test.YtifpcjnjfdjcdaaB22
namespace Go.Proofs.Ytifpcjnjfdjcdaa
open Go Go.VM
set_option linter.unusedVariables false
set_option linter.unusedSimpArgs false
theorem grows_row : ∀ l, FitAll maxLen [.sl 4 (.fld 1 (.int .i64) (.fld 1 (.int .i64) (.fld 1 (.int .i64) (.fld 1 (.int .i64) (.nil))))), .fld 1 (.int .i64) (.fld 1 (.int .i64) (.fld 1 (.int .i64) (.fld 1 (.int .i64) (.nil))))] l → ACalls Try.prog 9 l [] (fun r h' => r = .val (.bool true)) := by
  rintro l ⟨x, _, rfl, hx, y, _, rfl, hy, rfl⟩
  obtain ⟨ls, rfl, _, hl⟩ := fit_sl (f := RC.enc) hx (fun y hy => rc_fit hy)
  obtain ⟨m, rfl, hm⟩ := rc_fit hy
  exact grows_c ls m [] hl hm
end Go.Proofs.Ytifpcjnjfdjcdaa
