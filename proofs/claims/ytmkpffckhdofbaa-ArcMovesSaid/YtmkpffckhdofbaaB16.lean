/- The reference's spans, Rects, Box. No condition. -/
import Derived.Test.YtmkpffckhdofbaaB15
namespace Go.Proofs.Ytmkpffckhdofbaa
open Go Go.VM
attribute [local irreducible] PurV Pur Step RL W D ACalls Then InBlock Fini
set_option linter.unusedVariables false
set_option linter.unusedSimpArgs false
set_option maxHeartbeats 20000000
/-- The places between the first edges that are had, as stretches. -/
def addC (C : List (Int × Int)) (a c : Int) : List (Int × Int) := match C.getLast? with
  | some p => if p.2 = a then C.dropLast ++ [(p.1, c)] else C ++ [(a, c)]
  | none => [(a, c)]
def cellS (l : List RC) (xs : List Int) (y : Int) : Nat → List (Int × Int)
  | 0 => []
  | i + 1 => if hasF l (xs.getD i 0) y then addC (cellS l xs y i) (xs.getD i 0) (xs.getD (i + 1) 0) else cellS l xs y i
theorem addC_len (C : List (Int × Int)) (a c : Int) : (addC C a c).length ≤ C.length + 1 := by
  unfold addC
  split
  · rename_i p hp
    split
    · rw [List.length_append, List.length_dropLast, List.length_singleton]
      have : C ≠ [] := fun e => by rw [e] at hp; cases hp
      have := List.length_pos_iff.2 this
      omega
    · rw [List.length_append, List.length_singleton]; omega
  · simp
theorem cellS_len (l : List RC) (xs : List Int) (y : Int) : ∀ i, (cellS l xs y i).length ≤ i
  | 0 => Nat.le_refl _
  | i + 1 => by
    have := cellS_len l xs y i
    have h2 := addC_len (cellS l xs y i) (xs.getD i 0) (xs.getD (i + 1) 0)
    unfold cellS
    split <;> omega
/-- What is known of the stretches so far. -/
theorem cellS_spec {l : List RC} {xs : List Int} {y : Int} (hu : Up_ xs) : ∀ i, i < xs.length →
    CanS (cellS l xs y i) ∧ (∀ p ∈ cellS l xs y i, p.1 ∈ xs ∧ p.2 ∈ xs ∧ p.2 ≤ xs.getD i 0) ∧ ∀ x, inS (cellS l xs y i) x ↔ ∃ j, j < i ∧ hasF l (xs.getD j 0) y = true ∧ xs.getD j 0 ≤ x ∧ x < xs.getD (j + 1) 0
  | 0, _ => ⟨⟨fun p hp => (by cases hp), .nil⟩, ⟨fun p hp => (by cases hp), fun x => ⟨fun h => absurd h not_inS_nil, fun ⟨j, hj, _⟩ => (by omega)⟩⟩⟩
  | i + 1, hi => by
    obtain ⟨h1, h2, h3⟩ := cellS_spec (l := l) (y := y) hu i (by omega)
    have hlt := up_getD hu hi
    have m0 : xs.getD i 0 ∈ xs := getD_mem (by omega)
    have m1 : xs.getD (i + 1) 0 ∈ xs := getD_mem hi
    have hor : ∀ x, (∃ j, j < i + 1 ∧ hasF l (xs.getD j 0) y = true ∧ xs.getD j 0 ≤ x ∧ x < xs.getD (j + 1) 0) ↔ inS (cellS l xs y i) x ∨ (hasF l (xs.getD i 0) y = true ∧ xs.getD i 0 ≤ x ∧ x < xs.getD (i + 1) 0) := fun x => by
      rw [h3]
      constructor
      · rintro ⟨j, hj, k⟩
        by_cases e : j = i
        · subst e; exact .inr k
        · exact .inl ⟨j, by omega, k⟩
      · rintro (⟨j, hj, k⟩ | k)
        · exact ⟨j, by omega, k⟩
        · exact ⟨i, by omega, k⟩
    have hone : ∀ p x, inS [p] x ↔ p.1 ≤ x ∧ x < p.2 := fun p x => by
      rw [inS_cons]; exact ⟨fun h => h.resolve_right not_inS_nil, .inl⟩
    have happ : ∀ (a b : List (Int × Int)) x, inS (a ++ b) x ↔ inS a x ∨ inS b x := fun a b x => by
      unfold inS
      constructor
      · rintro ⟨p, hp, k⟩
        rcases List.mem_append.1 hp with hp | hp
        · exact .inl ⟨p, hp, k⟩
        · exact .inr ⟨p, hp, k⟩
      · rintro (⟨p, hp, k⟩ | ⟨p, hp, k⟩)
        · exact ⟨p, List.mem_append_left _ hp, k⟩
        · exact ⟨p, List.mem_append_right _ hp, k⟩
    unfold cellS
    by_cases hh : hasF l (xs.getD i 0) y = true
    · rw [if_pos hh]
      unfold addC
      cases hl : (cellS l xs y i).getLast? with
      | none =>
        have e : cellS l xs y i = [] := List.getLast?_eq_none_iff.1 hl
        refine ⟨⟨by simpa using hlt, by simp⟩, by simpa using ⟨m0, m1⟩, fun x => ?_⟩
        simp only
        rw [hor, hone, e]
        simp only [hh, true_and]
        exact ⟨.inr, fun k => k.resolve_left not_inS_nil⟩
      | some p =>
        have e : cellS l xs y i = (cellS l xs y i).dropLast ++ [p] := by
          rw [List.getLast?_eq_some_iff] at hl
          obtain ⟨ys, hys⟩ := hl
          rw [hys]; simp
        have hp : p ∈ cellS l xs y i := List.mem_of_getLast? hl
        have hpp := h1.pos p hp
        have hpi := h2 p hp
        by_cases hm : p.2 = xs.getD i 0
        · simp only [hm, if_true]
          have ha := h1.apart
          rw [e, List.pairwise_append] at ha
          refine ⟨⟨fun q hq => ?_, List.pairwise_append.2 ⟨ha.1, by simp, fun q hq r hr => ?_⟩⟩, fun q hq => ?_, fun x => ?_⟩
          · rcases List.mem_append.1 hq with hq | hq
            · exact h1.pos q (List.dropLast_subset _ hq)
            · rw [List.mem_singleton.1 hq]; simp only; omega
          · rw [List.mem_singleton.1 hr]
            exact ha.2.2 q hq p (List.mem_singleton_self _)
          · rcases List.mem_append.1 hq with hq | hq
            · have := h2 q (List.dropLast_subset _ hq); exact ⟨this.1, this.2.1, by omega⟩
            · rw [List.mem_singleton.1 hq]; exact ⟨hpi.1, m1, Int.le_refl _⟩
          · rw [hor, happ, hone]
            conv => rhs; rw [e, happ, hone]
            simp only [hh, true_and]
            constructor
            · rintro (k | ⟨k1, k2⟩)
              · exact .inl (.inl k)
              · by_cases hx : x < p.2
                · exact .inl (.inr ⟨k1, hx⟩)
                · exact .inr ⟨by omega, k2⟩
            · rintro ((k | ⟨k1, k2⟩) | ⟨k1, k2⟩)
              · exact .inl k
              · exact .inr ⟨k1, by omega⟩
              · exact .inr ⟨by omega, k2⟩
        · simp only [hm, if_false]
          have hall : ∀ q ∈ cellS l xs y i, q.2 < xs.getD i 0 := fun q hq => by
            have hq2 := h2 q hq
            rw [e] at hq
            rcases List.mem_append.1 hq with hq | hq
            · have ha := h1.apart
              rw [e, List.pairwise_append] at ha
              have := ha.2.2 q hq p (List.mem_singleton_self _)
              omega
            · rw [List.mem_singleton.1 hq]; omega
          refine ⟨⟨fun q hq => ?_, List.pairwise_append.2 ⟨h1.apart, by simp, fun q hq r hr => ?_⟩⟩, fun q hq => ?_, fun x => ?_⟩
          · rcases List.mem_append.1 hq with hq | hq
            · exact h1.pos q hq
            · rw [List.mem_singleton.1 hq]; exact hlt
          · rw [List.mem_singleton.1 hr]; exact hall q hq
          · rcases List.mem_append.1 hq with hq | hq
            · have := h2 q hq; exact ⟨this.1, this.2.1, by omega⟩
            · rw [List.mem_singleton.1 hq]; exact ⟨m0, m1, Int.le_refl _⟩
          · rw [hor, happ, hone]
            simp only [hh, true_and]
    · rw [if_neg hh]
      refine ⟨h1, fun q hq => by have := h2 q hq; exact ⟨this.1, this.2.1, by omega⟩, fun x => ?_⟩
      rw [hor]
      exact ⟨.inl, fun k => k.resolve_right fun q => hh q.1⟩
theorem rects_snoc {y h : Int} {s : List (Int × Int)} {p : Int × Int} : Bd.rects ⟨y, h, s ++ [p]⟩ = Bd.rects ⟨y, h, s⟩ ++ [⟨p.1, y, p.2 - p.1, h⟩] := by simp [Bd.rects]
end Go.Proofs.Ytmkpffckhdofbaa
