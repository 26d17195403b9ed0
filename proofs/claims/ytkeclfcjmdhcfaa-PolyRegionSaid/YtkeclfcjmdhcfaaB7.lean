import Derived.Test.YtkeclfcjmdhcfaaS9
import Derived.Test.YtkeclfcjmdhcfaaU3
import Derived.Test.YtkeclfcjmdhcfaaB4
/- What a sorted list is; a number put into one. No condition. -/
namespace Go.Proofs.Ytkeclfcjmdhcfaa
open Go Go.VM
set_option linter.unusedVariables false
set_option linter.unusedSimpArgs false
theorem sorted_perm_eq : ∀ {a b : List Int}, a.Perm b → a.Pairwise (· ≤ ·) → b.Pairwise (· ≤ ·) → a = b
  | [], b, h, _, _ => by rw [List.nil_perm.1 h]
  | x :: a, [], h, _, _ => by simpa using h.length_eq
  | x :: a, y :: b, h, h1, h2 => by
    rw [List.pairwise_cons] at h1 h2
    have hxy : x = y := by
      have q1 : x ∈ y :: b := h.mem_iff.1 (.head _)
      have q2 : y ∈ x :: a := h.mem_iff.2 (.head _)
      rcases List.mem_cons.1 q1 with e | e
      · exact e
      · rcases List.mem_cons.1 q2 with e2 | e2
        · exact e2.symm
        · have := h1.1 y e2; have := h2.1 x e; omega
    subst hxy
    rw [sorted_perm_eq (List.Perm.cons_inv h) h1.2 h2.2]
theorem srt_perm (l : List Int) : (srt l).Perm l := List.mergeSort_perm _ _
theorem srt_sorted (l : List Int) : (srt l).Pairwise (· ≤ ·) := by
  have := List.pairwise_mergeSort (le := fun x y : Int => decide (x ≤ y)) (fun a b c h1 h2 => by simp at *; omega) (fun a b => by simp; omega) l
  exact this.imp (fun h => by simpa using h)
theorem srt_eq {l l' : List Int} (h : l'.Perm l) (hs : l'.Pairwise (· ≤ ·)) : l' = srt l :=
  sorted_perm_eq (h.trans (srt_perm l).symm) hs (srt_sorted l)
theorem srt_congr {l l' : List Int} (h : l.Perm l') : srt l = srt l' := srt_eq ((srt_perm l).trans h) (srt_sorted l)
end Go.Proofs.Ytkeclfcjmdhcfaa

/- A number put into a list that rises. No condition. -/
namespace Go.Proofs.Ytkeclfcjmdhcfaa
open Go Go.VM
attribute [local irreducible] PurV Pur Step RL W D ACalls Then InBlock Fini
set_option linter.unusedVariables false
set_option linter.unusedSimpArgs false
set_option maxHeartbeats 20000000
abbrev Up_ (l : List Int) : Prop := l.Pairwise (· < ·)
end Go.Proofs.Ytkeclfcjmdhcfaa

/- The reference's Edges. No condition. -/
namespace Go.Proofs.Ytkeclfcjmdhcfaa
open Go Go.VM
attribute [local irreducible] PurV Pur Step RL W D ACalls Then InBlock Fini
set_option linter.unusedVariables false
set_option linter.unusedSimpArgs false
set_option maxHeartbeats 20000000
end Go.Proofs.Ytkeclfcjmdhcfaa

/- Whether rows have the same spans. No condition. -/
namespace Go.Proofs.Ytkeclfcjmdhcfaa
open Go Go.VM
attribute [local irreducible] PurV Pur Step RL W D ACalls Then InBlock Fini
set_option linter.unusedVariables false
set_option linter.unusedSimpArgs false
set_option maxHeartbeats 20000000
end Go.Proofs.Ytkeclfcjmdhcfaa
