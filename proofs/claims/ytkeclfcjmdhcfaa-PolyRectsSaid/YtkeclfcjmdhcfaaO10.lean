/- Rows stacked up, in plain words. No condition. -/
import Derived.Test.YtkeclfcjmdhcfaaO8
import Derived.Test.YtkeclfcjmdhcfaaW1
namespace Go.Proofs.Ytkeclfcjmdhcfaa
open Go Go.VM
set_option linter.unusedVariables false
set_option linter.unusedSimpArgs false
def upR (r : RC) : RC := ⟨r.x, r.y, r.w, r.h + 1⟩
def alikeQ (r s : RC) : Bool := decide (r.x = s.x) && decide (r.w = s.w)
structure RectsI (rule lo hi f : Int) (l : List PT) (y : Int) (O L : List RC) : Prop where
  ok : ∀ r ∈ O ++ L, (lo ≤ r.x ∧ 1 ≤ r.w ∧ r.x + r.w ≤ hi) ∧ f ≤ r.y ∧ 1 ≤ r.h ∧ r.y + r.h ≤ y
  last : ∀ r ∈ L, r.y + r.h = y
  len : 2 * ((O.length : Int) + L.length) ≤ 14 * (y - f)
  lenL : 2 * L.length ≤ 14
  le : f ≤ y
  set : ∀ x z, (∃ r ∈ O ++ L, r.has x z) ↔ (f ≤ z ∧ z < y) ∧ insF rule (turnsF l x z) = true
section
variable {rule lo hi f y : Int} {l : List PT} {O L R : List RC}
theorem rectsI_0 : RectsI rule lo hi f l f [] [] := ⟨fun r hr => (by cases hr), fun r hr => (by cases hr), by simp, by simp, Int.le_refl _, fun x z => ⟨fun ⟨r, hr, _⟩ => (by cases hr), fun ⟨⟨h1, h2⟩, _⟩ => (by omega)⟩⟩
theorem ex_app {A B : List RC} {p : RC → Prop} : (∃ r ∈ A ++ B, p r) ↔ (∃ r ∈ A, p r) ∨ ∃ r ∈ B, p r := by
  constructor
  · rintro ⟨r, hr, h⟩
    rcases List.mem_append.1 hr with q | q
    · exact .inl ⟨r, q, h⟩
    · exact .inr ⟨r, q, h⟩
  · rintro (⟨r, q, h⟩ | ⟨r, q, h⟩)
    · exact ⟨r, List.mem_append_left _ q, h⟩
    · exact ⟨r, List.mem_append_right _ q, h⟩
theorem rectsI_next (h : RectsI rule lo hi f l y O L) (hl : l.length ≤ 14) (hr : RowF rule y lo hi l R) : RectsI rule lo hi f l (y + 1) (O ++ L) R := by
  have h14 := hr.half
  refine ⟨fun r q => ?_, fun r q => ?_, ?_, by omega, by have := h.le; omega, fun x z => ?_⟩
  · rcases List.mem_append.1 q with q | q
    · have := h.ok r q; omega
    · have := hr.ok.ok r q; have := h.le; omega
  · have := hr.ok.ok r q; omega
  · have := h.len; rw [List.length_append]; push_cast; omega
  · rw [ex_app, h.set]
    have e : (∃ r ∈ R, r.has x z) ↔ z = y ∧ insF rule (turnsF l x z) = true := by
      constructor
      · rintro ⟨r, q, h1, h2, h3, h4⟩
        have := hr.ok.ok r q
        have ez : z = y := by omega
        subst ez
        exact ⟨rfl, (hr.set x).1 ⟨r, q, h1, h2⟩⟩
      · rintro ⟨rfl, q⟩
        obtain ⟨r, q, h1, h2⟩ := (hr.set x).2 q
        have := hr.ok.ok r q
        exact ⟨r, q, h1, h2, by omega, by omega⟩
    rw [e]
    have := h.le
    constructor
    · rintro (⟨q1, q2⟩ | ⟨q1, q2⟩)
      · exact ⟨by omega, q2⟩
      · exact ⟨by omega, q2⟩
    · rintro ⟨q1, q2⟩
      rcases (by omega : z < y ∨ z = y) with g | g
      · exact .inl ⟨⟨q1.1, g⟩, q2⟩
      · exact .inr ⟨g, q2⟩
theorem inX_alike (e : eqF alikeQ L R = true) (x : Int) : inX L x ↔ inX R x := by
  obtain ⟨h1, h2⟩ := eqF_at.1 e
  have key : ∀ {A B : List RC}, A.length = B.length → (∀ (i : Nat) (r s : RC), A[i]? = some r → B[i]? = some s → r.x = s.x ∧ r.w = s.w) → inX A x → inX B x := by
    intro A B hl hq
    rintro ⟨r, hr, h⟩
    obtain ⟨i, hi, rfl⟩ := List.mem_iff_getElem.1 hr
    have := hq i A[i] (B[i]'(by omega)) (List.getElem?_eq_getElem hi) (List.getElem?_eq_getElem (by omega))
    exact ⟨B[i]'(by omega), List.getElem_mem _, by omega⟩
  have h3 : ∀ (i : Nat) (r s : RC), L[i]? = some r → R[i]? = some s → r.x = s.x ∧ r.w = s.w := fun i r s hr hs => by
    have := h2 i r s hr hs
    unfold alikeQ at this
    simpa using this
  exact ⟨key h1 h3, key h1.symm fun i r s hr hs => by have := h3 i s r hs hr; omega⟩
theorem rectsI_same (h : RectsI rule lo hi f l y O L) (hr : RowF rule y lo hi l R) (e : eqF alikeQ L R = true) : RectsI rule lo hi f l (y + 1) O (L.map upR) := by
  refine ⟨fun r q => ?_, fun r q => ?_, ?_, by rw [List.length_map]; exact h.lenL, by have := h.le; omega, fun x z => ?_⟩
  · rcases List.mem_append.1 q with q | q
    · have := h.ok r (List.mem_append_left _ q); omega
    · obtain ⟨s, hs, rfl⟩ := List.mem_map.1 q
      have := h.ok s (List.mem_append_right _ hs)
      unfold upR; dsimp only; omega
  · obtain ⟨s, hs, rfl⟩ := List.mem_map.1 q
    have := h.last s hs
    unfold upR; dsimp only; omega
  · have := h.len; rw [List.length_map]; omega
  · have e1 : (∃ r ∈ L.map upR, r.has x z) ↔ (∃ r ∈ L, r.has x z) ∨ z = y ∧ inX L x := by
      constructor
      · rintro ⟨r, hr, hh⟩
        obtain ⟨s, hs, rfl⟩ := List.mem_map.1 hr
        have := h.last s hs
        unfold upR RC.has at hh
        dsimp only at hh
        by_cases g : z = y
        · exact .inr ⟨g, s, hs, by omega, by omega⟩
        · exact .inl ⟨s, hs, by unfold RC.has; omega⟩
      · rintro (⟨s, hs, hh⟩ | ⟨rfl, s, hs, h1, h2⟩)
        · exact ⟨upR s, List.mem_map.2 ⟨s, hs, rfl⟩, by unfold upR RC.has at *; dsimp only; omega⟩
        · have := h.last s hs
          have k := h.ok s (List.mem_append_right _ hs)
          exact ⟨upR s, List.mem_map.2 ⟨s, hs, rfl⟩, by unfold upR RC.has at *; dsimp only; omega⟩
    rw [ex_app, e1, ← or_assoc, ← ex_app, h.set, inX_alike e, hr.set]
    have := h.le
    constructor
    · rintro (⟨q1, q2⟩ | ⟨rfl, q2⟩)
      · exact ⟨by omega, q2⟩
      · exact ⟨by omega, q2⟩
    · rintro ⟨q1, q2⟩
      rcases (by omega : z < y ∨ z = y) with g | rfl
      · exact .inl ⟨⟨q1.1, g⟩, q2⟩
      · exact .inr ⟨rfl, q2⟩
/-- The whole stack's places. -/
theorem rectsI_has {t : Int} (h : RectsI rule lo hi f l t O L) (hlo : -1048576 ≤ lo) (hhi : hi ≤ 1048576) (hf : -1048576 ≤ f) (ht : t ≤ 1048576) (hl : ∀ q ∈ l, f ≤ q.y ∧ q.y ≤ t) :
    (∀ r ∈ O ++ L, r.cnt) ∧ ∀ x z, hasF (O ++ L) x z = insF rule (turnsF l x z) := by
  have hc : ∀ r ∈ O ++ L, r.cnt := fun r hr => by have := h.ok r hr; unfold RC.cnt fitP; omega
  refine ⟨hc, fun x z => ?_⟩
  rw [Bool.eq_iff_iff, hasF_iff]
  have e : (∃ r ∈ O ++ L, r.cnt ∧ r.has x z) ↔ ∃ r ∈ O ++ L, r.has x z := ⟨fun ⟨r, h1, _, h2⟩ => ⟨r, h1, h2⟩, fun ⟨r, h1, h2⟩ => ⟨r, h1, hc r h1, h2⟩⟩
  rw [e, h.set]
  constructor
  · exact fun q => q.2
  · intro q
    refine ⟨?_, q⟩
    rcases Int.lt_or_le z f with g | g
    · rw [turns_out hl (.inl g), insF_0] at q; cases q
    · rcases Int.lt_or_le z t with g2 | g2
      · exact ⟨g, g2⟩
      · rw [turns_out hl (.inr g2), insF_0] at q; cases q
end
end Go.Proofs.Ytkeclfcjmdhcfaa
