import Derived.Test.YtkeclfcjmdhcfaaB2

/- The reference's Same. No condition. -/
namespace Go.Proofs.Ytkeclfcjmdhcfaa
open Go Go.VM
attribute [local irreducible] PurV Pur Step RL W D ACalls Then InBlock Fini
set_option linter.unusedVariables false
set_option linter.unusedSimpArgs false
set_option maxHeartbeats 20000000
instance : TEq Try.prog 60 4 := ⟨by kernel_rfl, by kernel_rfl, by kernel_rfl, by kernel_rfl, by kernel_rfl⟩
theorem RC.eq4 (r s : RC) : (∀ q ∈ [(IntKind.i64, r.x, s.x), (IntKind.i64, r.y, s.y), (IntKind.i64, r.w, s.w), (IntKind.i64, r.h, s.h)], q.2.1 = q.2.2) ↔ r = s := by
  obtain ⟨a, b, c, d⟩ := r
  obtain ⟨a', b', c', d'⟩ := s
  simp
end Go.Proofs.Ytkeclfcjmdhcfaa

/- Areas; whether rows are alike. No condition. -/
namespace Go.Proofs.Ytkeclfcjmdhcfaa
open Go Go.VM
attribute [local irreducible] PurV Pur Step RL W D ACalls Then InBlock Fini
set_option linter.unusedVariables false
set_option linter.unusedSimpArgs false
set_option maxHeartbeats 20000000
def areaF (l : List RC) : Int := (l.map fun r => r.w * r.h).sum
def RC.sm (r : RC) : Prop := 0 ≤ r.w ∧ r.w ≤ 2097152 ∧ 0 ≤ r.h ∧ r.h ≤ 2097152
theorem RC.cnt.sm {r : RC} (h : r.cnt) : r.sm := by
  obtain ⟨⟨h1, h2, h3⟩, ⟨h4, h5, h6⟩⟩ := h
  unfold RC.sm; omega
theorem RC.sm.mul {r : RC} (h : r.sm) : 0 ≤ r.w * r.h ∧ r.w * r.h ≤ 4398046511104 := by
  obtain ⟨h1, h2, h3, h4⟩ := h
  refine ⟨Int.mul_nonneg h1 h3, ?_⟩
  have := Int.mul_le_mul h2 h4 h3 (by omega)
  omega
theorem areaF_snoc (l : List RC) (r : RC) : areaF (l ++ [r]) = areaF l + r.w * r.h := by simp [areaF, List.sum_append]
theorem areaF_le : ∀ (l : List RC), (∀ r ∈ l, r.sm) → 0 ≤ areaF l ∧ areaF l ≤ l.length * 4398046511104
  | [], _ => by simp [areaF]
  | r :: l, h => by
    have h1 := (h r (.head _)).mul
    have h2 := areaF_le l fun s hs => h s (.tail _ hs)
    have e : areaF (r :: l) = r.w * r.h + areaF l := by simp [areaF]
    rw [e, List.length_cons]
    push_cast
    omega
end Go.Proofs.Ytkeclfcjmdhcfaa
