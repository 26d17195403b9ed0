/- ShapeFar in the rows' words. No condition. -/
import Derived.Test.YtdknjjgmmmmfjaaTy2
import Derived.Test.YtdknjjgmmmmfjaaE11
namespace Go.Proofs.Ytdknjjgmmmmfjaa
open Go Go.VM
set_option linter.unusedVariables false
set_option linter.unusedSimpArgs false
theorem far_row : ∀ l, FitAll maxLen [.int .i64, .int .i64, .int .i64] l → ACalls Try.prog 6 l [] (fun r h' => r = .val (.bool true)) := by
  rintro l ⟨x, _, rfl, hx, y, _, rfl, hy, z, _, rfl, hz, rfl⟩
  obtain ⟨a, rfl, ha⟩ := fit_int hx
  obtain ⟨b, rfl, hb⟩ := fit_int hy
  obtain ⟨c, rfl, hc⟩ := fit_int hz
  exact far_c a b c (wf_i64 ha) (wf_i64 hb) (wf_i64 hc)
end Go.Proofs.Ytdknjjgmmmmfjaa
