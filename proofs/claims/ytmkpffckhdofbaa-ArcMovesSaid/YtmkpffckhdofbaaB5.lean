/- A number put into a list that rises. No condition. -/
import Derived.Test.YtmkpffckhdofbaaB4
import Derived.Test.YtmkpffckhdofbaaSR
namespace Go.Proofs.Ytmkpffckhdofbaa
open Go Go.VM
attribute [local irreducible] PurV Pur Step RL W D ACalls Then InBlock Fini
set_option linter.unusedVariables false
set_option linter.unusedSimpArgs false
set_option maxHeartbeats 20000000
def insS (l : List Int) (n : Int) : List Int := (l.filter fun x => decide (x < n)) ++ n :: l.filter fun x => decide (n < x)
abbrev Up_ (l : List Int) : Prop := l.Pairwise (· < ·)
theorem filter_all {l : List Int} {p : Int → Bool} (h : ∀ x ∈ l, p x = true) : l.filter p = l := List.filter_eq_self.2 h
theorem filter_none {l : List Int} {p : Int → Bool} (h : ∀ x ∈ l, p x = false) : l.filter p = [] := by
  rw [List.filter_eq_nil_iff]; intro x hx; rw [h x hx]; simp
theorem insS_cut {a b : List Int} {n : Int} (h1 : ∀ x ∈ a, x < n) (h2 : ∀ x ∈ b, n < x) : insS (a ++ b) n = a ++ n :: b := by
  unfold insS
  rw [List.filter_append, List.filter_append, filter_all (fun x hx => by simpa using h1 x hx), filter_none (l := b) (fun x hx => by have := h2 x hx; simp; omega), filter_none (l := a) (fun x hx => by have := h1 x hx; simp; omega), filter_all (fun x hx => by simpa using h2 x hx)]
  simp
theorem insS_in {a b : List Int} {n : Int} (h1 : ∀ x ∈ a, x < n) (h2 : ∀ x ∈ b, n < x) : insS (a ++ n :: b) n = a ++ n :: b := by
  unfold insS
  rw [List.filter_append, List.filter_append, List.filter_cons, List.filter_cons, filter_all (fun x hx => by simpa using h1 x hx), filter_none (l := b) (fun x hx => by have := h2 x hx; simp; omega), filter_none (l := a) (fun x hx => by have := h1 x hx; simp; omega), filter_all (fun x hx => by simpa using h2 x hx)]
  simp
theorem up_cut {l : List Int} (h : Up_ l) {k : Nat} {x : Int} (hx : l[k]? = some x) : (∀ y ∈ l.take k, y < x) ∧ (∀ y ∈ l.drop (k + 1), x < y) ∧ l = l.take k ++ x :: l.drop (k + 1) := by
  have hlt : k < l.length := (List.getElem?_eq_some_iff.1 hx).1
  have e : l = l.take k ++ x :: l.drop (k + 1) := by
    have := List.take_append_drop k l
    rw [List.drop_eq_getElem_cons hlt] at this
    rw [List.getElem?_eq_getElem hlt] at hx
    injection hx with hx
    rw [hx] at this
    exact this.symm
  have h' := h
  unfold Up_ at h'
  rw [e, List.pairwise_append, List.pairwise_cons] at h'
  exact ⟨fun y hy => h'.2.2 y hy x (.head _), h'.2.1.1, e⟩
end Go.Proofs.Ytmkpffckhdofbaa
