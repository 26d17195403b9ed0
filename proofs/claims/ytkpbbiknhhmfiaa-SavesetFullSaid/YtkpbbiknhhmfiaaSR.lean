/- What a sorted list is; a number put into one. No condition. -/
import Derived.Test.YtkpbbiknhhmfiaaS9
import Derived.Test.YtkpbbiknhhmfiaaU3
namespace Go.Proofs.Ytkpbbiknhhmfiaa
open Go Go.VM
set_option linter.unusedVariables false
set_option linter.unusedSimpArgs false
theorem sorted_perm_eq : ∀ {a b : List Int}, a.Perm b → a.Pairwise (· ≤ ·) → b.Pairwise (· ≤ ·) → a = b
  | [], b, h, _, _ => by rw [List.nil_perm.1 h]
  | x :: a, [], h, _, _ => by simpa using h.length_eq
  | x :: a, y :: b, h, h1, h2 => by
    rw [List.pairwise_cons] at h1 h2
    have hxy : x = y := by
      have q1 : x ∈ y :: b := h.mem_iff.1 (.head _)
      have q2 : y ∈ x :: a := h.mem_iff.2 (.head _)
      rcases List.mem_cons.1 q1 with e | e
      · exact e
      · rcases List.mem_cons.1 q2 with e2 | e2
        · exact e2.symm
        · have := h1.1 y e2; have := h2.1 x e; omega
    subst hxy
    rw [sorted_perm_eq (List.Perm.cons_inv h) h1.2 h2.2]
theorem srt_perm (l : List Int) : (srt l).Perm l := List.mergeSort_perm _ _
theorem srt_sorted (l : List Int) : (srt l).Pairwise (· ≤ ·) := by
  have := List.pairwise_mergeSort (le := fun x y : Int => decide (x ≤ y)) (fun a b c h1 h2 => by simp at *; omega) (fun a b => by simp; omega) l
  exact this.imp (fun h => by simpa using h)
theorem srt_eq {l l' : List Int} (h : l'.Perm l) (hs : l'.Pairwise (· ≤ ·)) : l' = srt l :=
  sorted_perm_eq (h.trans (srt_perm l).symm) hs (srt_sorted l)
theorem srt_congr {l l' : List Int} (h : l.Perm l') : srt l = srt l' := srt_eq ((srt_perm l).trans h) (srt_sorted l)
theorem putF_new {α : Type} {t : List (Int × α)} {i : Int} (a : α) (h : i ∉ t.map (·.1)) : putF t i a = t ++ [(i, a)] := by
  unfold putF
  have : lkF t i = none := lkF_none.2 fun p hp e => h (e ▸ List.mem_map_of_mem hp)
  rw [this]; rfl
theorem leh_mp {α : Type} {b : Nat} {kd : IntKind} {f : α → AV} {t t' : List (Int × α)} {h h' : Heap} (hp : t.Perm t') (k : LeH h h') : LeH (mpV b kd f t :: h) (mpV b kd f t' :: h') := by
  have := LeH.mapp (b := b) (x := t.map fun p => (Value.int kd p.1, f p.2)) (y := t'.map fun p => (Value.int kd p.1, f p.2)) (h := mpV b kd f t :: h) (r := h) (h' := h') (by simp only [List.map_map]; exact .here) (hp.map _) k
  simp only [List.map_map] at this
  exact this
end Go.Proofs.Ytkpbbiknhhmfiaa
