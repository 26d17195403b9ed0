/- ArcInside in the rows' words. No condition. -/
import Derived.Test.YtmkpffckhdofbaaA15
namespace Go.Proofs.Ytmkpffckhdofbaa
open Go Go.VM
set_option linter.unusedVariables false
set_option linter.unusedSimpArgs false
theorem insides_row : ∀ l, FitAll maxLen [.fld 1 (.int .i64) (.fld 1 (.int .i64) (.fld 1 (.int .i64) (.fld 1 (.int .i64) (.nil)))), .int .i64, .int .i64] l → ACalls Try.prog 5 l [] (fun r h' => r = .val (.bool true)) := by
  rintro l ⟨x, _, rfl, hx, y, _, rfl, hy, z, _, rfl, hz, rfl⟩
  obtain ⟨c, rfl, hc⟩ := rc_fit hx
  obtain ⟨a, rfl, ha⟩ := fit_int hy
  obtain ⟨b, rfl, hb⟩ := fit_int hz
  exact insides_c c a b hc
end Go.Proofs.Ytmkpffckhdofbaa
