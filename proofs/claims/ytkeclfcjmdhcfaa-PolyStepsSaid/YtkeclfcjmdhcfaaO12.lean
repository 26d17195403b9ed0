/- What is wrong with a region's corners, in plain words. No condition. -/
import Derived.Test.YtkeclfcjmdhcfaaO8
namespace Go.Proofs.Ytkeclfcjmdhcfaa
open Go Go.VM
set_option linter.unusedVariables false
set_option linter.unusedSimpArgs false
def loF (f : PT → Int) (a : Int) (l : List PT) : Int := l.foldl (fun m p => min m (f p)) a
def hiF (f : PT → Int) (a : Int) (l : List PT) : Int := l.foldl (fun m p => max m (f p)) a
theorem loF_snoc (f : PT → Int) (a : Int) (l : List PT) (p : PT) : loF f a (l ++ [p]) = min (loF f a l) (f p) := by unfold loF; rw [List.foldl_append]; rfl
theorem hiF_snoc (f : PT → Int) (a : Int) (l : List PT) (p : PT) : hiF f a (l ++ [p]) = max (hiF f a l) (f p) := by unfold hiF; rw [List.foldl_append]; rfl
theorem loF_spec (f : PT → Int) : ∀ (l : List PT) (a : Int), loF f a l ≤ a ∧ (∀ p ∈ l, loF f a l ≤ f p) ∧ (loF f a l = a ∨ ∃ p ∈ l, loF f a l = f p)
  | [], a => ⟨Int.le_refl _, fun p hp => (by cases hp), .inl rfl⟩
  | q :: l, a => by
    obtain ⟨h1, h2, h3⟩ := loF_spec f l (min a (f q))
    have e : loF f a (q :: l) = loF f (min a (f q)) l := rfl
    rw [e]
    refine ⟨by omega, fun p hp => ?_, ?_⟩
    · rcases List.mem_cons.1 hp with rfl | hp
      · omega
      · exact h2 p hp
    · rcases h3 with h3 | ⟨p, hp, h3⟩
      · rcases (by omega : min a (f q) = a ∨ min a (f q) = f q) with g | g
        · exact .inl (h3.trans g)
        · exact .inr ⟨q, List.mem_cons_self .., h3.trans g⟩
      · exact .inr ⟨p, List.mem_cons_of_mem _ hp, h3⟩
theorem hiF_spec (f : PT → Int) : ∀ (l : List PT) (a : Int), a ≤ hiF f a l ∧ (∀ p ∈ l, f p ≤ hiF f a l) ∧ (hiF f a l = a ∨ ∃ p ∈ l, hiF f a l = f p)
  | [], a => ⟨Int.le_refl _, fun p hp => (by cases hp), .inl rfl⟩
  | q :: l, a => by
    obtain ⟨h1, h2, h3⟩ := hiF_spec f l (max a (f q))
    have e : hiF f a (q :: l) = hiF f (max a (f q)) l := rfl
    rw [e]
    refine ⟨by omega, fun p hp => ?_, ?_⟩
    · rcases List.mem_cons.1 hp with rfl | hp
      · omega
      · exact h2 p hp
    · rcases h3 with h3 | ⟨p, hp, h3⟩
      · rcases (by omega : max a (f q) = a ∨ max a (f q) = f q) with g | g
        · exact .inl (h3.trans g)
        · exact .inr ⟨q, List.mem_cons_self .., h3.trans g⟩
      · exact .inr ⟨p, List.mem_cons_of_mem _ hp, h3⟩
theorem spread {f : PT → Int} {p : PT} {l : List PT} (hp : p ∈ l) : hiF f (f p) l - loF f (f p) l ≤ 4096 ↔ ∀ a ∈ l, ∀ b ∈ l, f a - f b ≤ 4096 := by
  obtain ⟨a1, a2, a3⟩ := loF_spec f l (f p)
  obtain ⟨b1, b2, b3⟩ := hiF_spec f l (f p)
  constructor
  · intro h a ha b hb
    have := a2 b hb; have := b2 a ha; omega
  · intro h
    obtain ⟨u, hu, eu⟩ : ∃ u ∈ l, hiF f (f p) l = f u := b3.elim (fun e => ⟨p, hp, e⟩) id
    obtain ⟨v, hv, ev⟩ : ∃ v ∈ l, loF f (f p) l = f v := a3.elim (fun e => ⟨p, hp, e⟩) id
    rw [eu, ev]; exact h u hu v hv
def closeP (a b : PT) : Prop := (a.x - b.x ≤ 4096 ∧ b.x - a.x ≤ 4096) ∧ a.y - b.y ≤ 4096 ∧ b.y - a.y ≤ 4096
instance (a b : PT) : Decidable (closeP a b) := inferInstanceAs (Decidable (_ ∧ _))
def closeB (l : List PT) : Bool := l.all fun a => l.all fun b => decide (closeP a b)
theorem closeB_iff {l : List PT} : closeB l = true ↔ ∀ a ∈ l, ∀ b ∈ l, closeP a b := by
  unfold closeB; rw [List.all_eq_true]
  simp only [List.all_eq_true, decide_eq_true_eq]
theorem closeB_hl {p : PT} {l : List PT} (hp : p ∈ l) : closeB l = true ↔ hiF PT.x p.x l - loF PT.x p.x l ≤ 4096 ∧ hiF PT.y p.y l - loF PT.y p.y l ≤ 4096 := by
  rw [closeB_iff, spread hp, spread hp]
  unfold closeP
  constructor
  · intro h; exact ⟨fun a ha b hb => (h a ha b hb).1.1, fun a ha b hb => (h a ha b hb).2.1⟩
  · rintro ⟨h1, h2⟩ a ha b hb; exact ⟨⟨h1 a ha b hb, h1 b hb a ha⟩, h2 a ha b hb, h2 b hb a ha⟩
/-- Pair by pair, the first one later. -/
theorem closeB_at {l : List PT} : closeB l = true ↔ ∀ (i k : Nat) (a b : PT), k < i → l[i]? = some a → l[k]? = some b → closeP a b := by
  rw [closeB_iff]
  constructor
  · intro h i k a b _ ha hb; exact h a (List.mem_of_getElem? ha) b (List.mem_of_getElem? hb)
  · intro h a ha b hb
    obtain ⟨i, hi, rfl⟩ := List.mem_iff_getElem.1 ha
    obtain ⟨k, hk, rfl⟩ := List.mem_iff_getElem.1 hb
    rcases Nat.lt_trichotomy k i with q | q | q
    · exact h i k _ _ q (List.getElem?_eq_getElem hi) (List.getElem?_eq_getElem hk)
    · subst q; unfold closeP; omega
    · have := h k i _ _ q (List.getElem?_eq_getElem hk) (List.getElem?_eq_getElem hi)
      unfold closeP at *; omega
def checkF (rule : Int) (l : List PT) : Int := if knownF rule = true then (if 256 < l.length then 5 else if allNear l = true then (if closeB l = true then 0 else 17) else 1) else 10
/-- The region of some corners. -/
structure PolyD (rule : Int) (l : List PT) (D : List RC) : Prop where
  cnt : ∀ r ∈ D, r.cnt
  has : ∀ x z, hasF D x z = insF rule (turnsF l x z)
end Go.Proofs.Ytkeclfcjmdhcfaa
