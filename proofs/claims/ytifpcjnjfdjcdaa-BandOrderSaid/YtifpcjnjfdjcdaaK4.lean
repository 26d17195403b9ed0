/- BandOrder in the rows' words. No condition. -/
import Derived.Test.YtifpcjnjfdjcdaaK1
import Derived.Test.YtifpcjnjfdjcdaaB21
namespace Go.Proofs.Ytifpcjnjfdjcdaa
open Go Go.VM
set_option linter.unusedVariables false
set_option linter.unusedSimpArgs false
theorem u8_fit {N : Nat} {x : AV} (h : FitE N (.int .u8) x) : ∃ n, x = .val (.int .u8 n) ∧ (0 ≤ n ∧ n ≤ 255) := by
  obtain ⟨n, rfl, hn⟩ := fit_int h
  exact ⟨n, rfl, wf_u8 hn⟩
theorem orders_row : ∀ l, FitAll maxLen [.sl 4 (.fld 1 (.int .i64) (.fld 1 (.int .i64) (.fld 1 (.int .i64) (.fld 1 (.int .i64) (.nil))))), .int .u8, .sl 1 (.int .u8)] l → ACalls Try.prog 5 l [] (fun r h' => r = .val (.bool true)) := by
  rintro l ⟨x, _, rfl, hx, y, _, rfl, hy, z, _, rfl, hz, rfl⟩
  obtain ⟨ls, rfl, _, hl⟩ := fit_sl (f := RC.enc) hx (fun y hy => rc_fit hy)
  obtain ⟨n, rfl, hn⟩ := u8_fit hy
  obtain ⟨cs, rfl, _, hcs⟩ := fit_sl (f := fun n => .val (.int .u8 n)) hz (fun y hy => u8_fit hy)
  obtain ⟨t, rfl⟩ := Int.eq_ofNat_of_zero_le hn.1
  exact orders_c ls t cs [] hl (by omega) hcs
end Go.Proofs.Ytifpcjnjfdjcdaa
