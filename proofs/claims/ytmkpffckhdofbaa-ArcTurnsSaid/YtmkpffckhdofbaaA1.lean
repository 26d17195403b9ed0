/- Ellipses, in plain words: what is inside; rows; discs and rings as lists of rectangles. No condition. -/
import Derived.Test.YtmkpffckhdofbaaW1
namespace Go.Proofs.Ytmkpffckhdofbaa
open Go Go.VM
set_option linter.unusedVariables false
set_option linter.unusedSimpArgs false
/-- The rectangle of an ellipse that may be. -/
def aok (r : RC) : Prop := ((-1048576 ≤ r.x ∧ r.x ≤ 1048576) ∧ -1048576 ≤ r.y ∧ r.y ≤ 1048576) ∧ ((1 ≤ r.w ∧ r.w ≤ 4096) ∧ 1 ≤ r.h ∧ r.h ≤ 4096) ∧ r.x + r.w ≤ 1048576 ∧ r.y + r.h ≤ 1048576
instance (r : RC) : Decidable (aok r) := inferInstanceAs (Decidable (_ ∧ _ ∧ _ ∧ _))
def insE (r : RC) (x y : Int) : Bool := decide ((2 * (x - r.x) + 1 - r.w) * r.h * ((2 * (x - r.x) + 1 - r.w) * r.h) + (2 * (y - r.y) + 1 - r.h) * r.w * ((2 * (y - r.y) + 1 - r.h) * r.w) ≤ r.w * r.h * (r.w * r.h))
def inR (r : RC) (x y : Int) : Prop := (r.x ≤ x ∧ x < r.x + r.w) ∧ r.y ≤ y ∧ y < r.y + r.h
instance (r : RC) (x y : Int) : Decidable (inR r x y) := inferInstanceAs (Decidable (_ ∧ _))
def inA (r : RC) (x y : Int) : Bool := decide (inR r x y) && insE r x y
def onA (r : RC) (x y : Int) : Bool := inA r x y && !(inA r (x - 1) y && inA r (x + 1) y && inA r x (y - 1) && inA r x (y + 1))
theorem insE_iff {r : RC} {x y : Int} : insE r x y = true ↔ (2 * (x - r.x) + 1 - r.w) * r.h * ((2 * (x - r.x) + 1 - r.w) * r.h) + (2 * (y - r.y) + 1 - r.h) * r.w * ((2 * (y - r.y) + 1 - r.h) * r.w) ≤ r.w * r.h * (r.w * r.h) := decide_eq_true_iff
theorem insE_sym (r : RC) (i y : Int) : insE r (r.x + i) y = insE r (r.x + (r.w - 1 - i)) y := by
  rw [Bool.eq_iff_iff, insE_iff, insE_iff]
  have e : 2 * (r.x + (r.w - 1 - i) - r.x) + 1 - r.w = -(2 * (r.x + i - r.x) + 1 - r.w) := by omega
  rw [e]
  generalize 2 * (r.x + i - r.x) + 1 - r.w = a
  have : -a * r.h * (-a * r.h) = a * r.h * (a * r.h) := by grind
  rw [this]
theorem insE_symY (r : RC) (x j : Int) : insE r x (r.y + j) = insE r x (r.y + (r.h - 1 - j)) := by
  rw [Bool.eq_iff_iff, insE_iff, insE_iff]
  have e : 2 * (r.y + (r.h - 1 - j) - r.y) + 1 - r.h = -(2 * (r.y + j - r.y) + 1 - r.h) := by omega
  rw [e]
  generalize 2 * (r.y + j - r.y) + 1 - r.h = a
  have : -a * r.w * (-a * r.w) = a * r.w * (a * r.w) := by grind
  rw [this]
theorem sq_mono {a b : Int} (h1 : a ≤ b) (h2 : b ≤ 0) (h : Int) : b * h * (b * h) ≤ a * h * (a * h) := by
  have e0 : 0 ≤ (b - a) * -(a + b) := Int.mul_nonneg (by omega) (by omega)
  have e1 : 0 ≤ h * h := by
    rcases Int.le_total 0 h with q | q
    · exact Int.mul_nonneg q q
    · have := Int.mul_nonneg (show 0 ≤ -h by omega) (show 0 ≤ -h by omega); grind
  have e2 := Int.mul_nonneg e0 e1
  grind
theorem insE_mono {r : RC} {i j y : Int} (h1 : i ≤ j) (h2 : 2 * j + 1 ≤ r.w) (h : insE r (r.x + i) y = true) : insE r (r.x + j) y = true := by
  rw [insE_iff] at h ⊢
  have := sq_mono (a := 2 * (r.x + i - r.x) + 1 - r.w) (b := 2 * (r.x + j - r.x) + 1 - r.w) (by omega) (by omega) r.h
  omega
def halfN (r : RC) : Nat := ((r.w + 1) / 2).toNat
def kF (r : RC) (y : Int) : Nat := (List.range (halfN r)).findIdx fun i : Nat => insE r (r.x + (i : Int)) y
def rowF (r : RC) (y : Int) : Int × Int := if r.y ≤ y ∧ y < r.y + r.h then (if kF r y = halfN r then (0, 0) else (r.x + (kF r y : Int), r.x + r.w - (kF r y : Int))) else (0, 0)
theorem kF_le (r : RC) (y : Int) : kF r y ≤ halfN r := by
  have := List.findIdx_le_length (xs := List.range (halfN r)) (p := fun i : Nat => insE r (r.x + (i : Int)) y)
  rw [List.length_range] at this; exact this
theorem kF_before {r : RC} {y : Int} {i : Nat} (h : i < kF r y) : insE r (r.x + (i : Int)) y = false := by
  have h1 := List.not_of_lt_findIdx (xs := List.range (halfN r)) (p := fun i : Nat => insE r (r.x + (i : Int)) y) (i := i) h
  simpa using h1
theorem kF_at {r : RC} {y : Int} (h : kF r y < halfN r) : insE r (r.x + (kF r y : Int)) y = true := by
  have h0 : (List.range (halfN r)).findIdx (fun i : Nat => insE r (r.x + (i : Int)) y) < (List.range (halfN r)).length := by rw [List.length_range]; exact h
  have := List.findIdx_getElem (w := h0)
  simpa [kF] using this
theorem kF_unique {r : RC} {y : Int} {k : Nat} (hk : k ≤ halfN r) (h1 : ∀ i, i < k → insE r (r.x + (i : Int)) y = false) (h2 : k < halfN r → insE r (r.x + (k : Int)) y = true) : kF r y = k := by
  have := kF_le r y
  rcases Nat.lt_trichotomy (kF r y) k with h | h | h
  · have a := kF_at (r := r) (y := y) (by omega)
    rw [h1 _ h] at a; cases a
  · exact h
  · have a := kF_before h
    rw [h2 (by omega)] at a; cases a
theorem rowF_in {r : RC} (ok : aok r) (y : Int) : rowF r y = (0, 0) ∨ ((rowF r y).1 < (rowF r y).2 ∧ r.x ≤ (rowF r y).1 ∧ (rowF r y).2 ≤ r.x + r.w ∧ r.y ≤ y ∧ y < r.y + r.h) := by
  obtain ⟨_, ⟨⟨w1, w2⟩, _⟩, _⟩ := ok
  unfold rowF
  split
  · split
    · exact .inl rfl
    · right
      rename_i h1 h2
      have := kF_le r y
      have : halfN r = ((r.w + 1) / 2).toNat := rfl
      dsimp only
      omega
  · exact .inl rfl
theorem rowF_spec {r : RC} (ok : aok r) (x y : Int) : inA r x y = true ↔ (rowF r y).1 ≤ x ∧ x < (rowF r y).2 := by
  obtain ⟨_, ⟨⟨w1, w2⟩, _⟩, _⟩ := ok
  have hh : (halfN r : Int) = (r.w + 1) / 2 := by unfold halfN; omega
  unfold inA rowF
  rw [Bool.and_eq_true, decide_eq_true_iff]
  unfold inR
  by_cases hy : r.y ≤ y ∧ y < r.y + r.h
  · rw [if_pos hy]
    have hk := kF_le r y
    obtain ⟨i, hi⟩ : ∃ i : Int, x = r.x + i := ⟨x - r.x, by omega⟩
    subst hi
    -- what is inside, for places of the row
    have key : 0 ≤ i → i < r.w → (insE r (r.x + i) y = true ↔ kF r y < halfN r ∧ (kF r y : Int) ≤ i ∧ i ≤ r.w - 1 - (kF r y : Int)) := by
      intro i0 i1
      have low : ∀ j : Int, 0 ≤ j → j < halfN r → (insE r (r.x + j) y = true ↔ kF r y < halfN r ∧ (kF r y : Int) ≤ j) := by
        intro j j0 j1
        obtain ⟨n, rfl⟩ := Int.eq_ofNat_of_zero_le j0
        constructor
        · intro h
          rcases Nat.lt_or_ge n (kF r y) with q | q
          · rw [kF_before q] at h; cases h
          · omega
        · rintro ⟨h1, h2⟩
          exact insE_mono h2 (by omega) (kF_at h1)
      rcases Int.lt_or_le i (halfN r) with q | q
      · rw [low i i0 q]
        constructor
        · rintro ⟨h1, h2⟩; omega
        · rintro ⟨h1, h2, h3⟩; exact ⟨h1, h2⟩
      · rw [insE_sym, low (r.w - 1 - i) (by omega) (by omega)]
        constructor
        · rintro ⟨h1, h2⟩; omega
        · rintro ⟨h1, h2, h3⟩; omega
    by_cases hk2 : kF r y = halfN r
    · rw [if_pos hk2]
      constructor
      · rintro ⟨⟨h1, _⟩, h2⟩
        have := (key (by omega) (by omega)).1 h2
        omega
      · rintro ⟨h1, h2⟩; dsimp only at h1 h2; omega
    · rw [if_neg hk2]
      dsimp only
      constructor
      · rintro ⟨⟨h1, _⟩, h2⟩
        have := (key (by omega) (by omega)).1 h2
        omega
      · rintro ⟨h1, h2⟩
        exact ⟨⟨by omega, hy⟩, (key (by omega) (by omega)).2 (by omega)⟩
  · rw [if_neg hy]
    constructor
    · rintro ⟨⟨_, h⟩, _⟩; exact absurd h hy
    · rintro ⟨h1, h2⟩; dsimp only at h1 h2; omega
def putF (y : Int) (s : Int × Int) : List RC := if s.1 < s.2 then [⟨s.1, y, s.2 - s.1, 1⟩] else []
theorem has_putF {y : Int} {s : Int × Int} {x z : Int} : hasR (putF y s) x z = decide (z = y ∧ s.1 ≤ x ∧ x < s.2) := by
  unfold putF
  rw [Bool.eq_iff_iff, decide_eq_true_iff, hasR_iff]
  split
  · simp only [List.mem_singleton, exists_eq_left]
    unfold RC.has
    dsimp only
    omega
  · simp only [List.not_mem_nil, false_and, exists_false, false_iff]
    omega
/-- The rows of an ellipse that have pixels inside. -/
def rowsF (r : RC) (n : Nat) : List (Int × (Int × Int)) := (List.range n).flatMap fun j : Nat => if (rowF r (r.y + (j : Int))).1 < (rowF r (r.y + (j : Int))).2 then [(r.y + (j : Int), rowF r (r.y + (j : Int)))] else []
def ringP (r : RC) (y : Int) (s : Int × Int) : List RC :=
  if min (min (s.2 - 1) (rowF r (y - 1)).2) (rowF r (y + 1)).2 ≤ max (max (s.1 + 1) (rowF r (y - 1)).1) (rowF r (y + 1)).1 then putF y s
  else putF y (s.1, max (max (s.1 + 1) (rowF r (y - 1)).1) (rowF r (y + 1)).1) ++ putF y (min (min (s.2 - 1) (rowF r (y - 1)).2) (rowF r (y + 1)).2, s.2)
def discL (r : RC) : List RC := (rowsF r r.h.toNat).flatMap fun p => putF p.1 p.2
def ringL (r : RC) : List RC := (rowsF r r.h.toNat).flatMap fun p => ringP r p.1 p.2
theorem mem_rowsF {r : RC} (ok : aok r) {p : Int × (Int × Int)} : p ∈ rowsF r r.h.toNat ↔ p.2 = rowF r p.1 ∧ p.2.1 < p.2.2 := by
  obtain ⟨_, ⟨_, h1, h2⟩, _⟩ := id ok
  unfold rowsF
  simp only [List.mem_flatMap, List.mem_range]
  constructor
  · rintro ⟨j, hj, hp⟩
    split at hp
    · rename_i h; rw [List.mem_singleton.1 hp]; exact ⟨rfl, h⟩
    · cases hp
  · rintro ⟨e, h⟩
    rcases rowF_in ok p.1 with q | ⟨_, _, _, q1, q2⟩
    · rw [e, q] at h; cases h
    · refine ⟨(p.1 - r.y).toNat, by omega, ?_⟩
      rw [show r.y + ((p.1 - r.y).toNat : Int) = p.1 by omega, ← e, if_pos h]
      exact List.mem_singleton.2 rfl
theorem disc_hasR {r : RC} (ok : aok r) (x y : Int) : hasR (discL r) x y = inA r x y := by
  rw [Bool.eq_iff_iff, rowF_spec ok, hasR_iff]
  unfold discL
  constructor
  · rintro ⟨q, hq, h⟩
    obtain ⟨p, hp, hq⟩ := List.mem_flatMap.1 hq
    obtain ⟨e, _⟩ := (mem_rowsF ok).1 hp
    have := has_putF (y := p.1) (s := p.2) (x := x) (z := y)
    rw [show hasR (putF p.1 p.2) x y = true from hasR_iff.2 ⟨q, hq, h⟩] at this
    have := of_decide_eq_true this.symm
    rw [this.1, ← e]; exact this.2
  · intro h
    have hp : (y, rowF r y) ∈ rowsF r r.h.toNat := (mem_rowsF ok).2 ⟨rfl, by dsimp only; omega⟩
    have := has_putF (y := y) (s := rowF r y) (x := x) (z := y)
    rw [decide_eq_true ⟨rfl, h⟩, hasR_iff] at this
    obtain ⟨q, hq, hh⟩ := this
    exact ⟨q, List.mem_flatMap.2 ⟨_, hp, hq⟩, hh⟩
theorem ringP_has {r : RC} (ok : aok r) {x y : Int} (hs : (rowF r y).1 < (rowF r y).2) (z : Int) : hasR (ringP r y (rowF r y)) x z = (decide (z = y) && onA r x y) := by
  have s0 := rowF_spec ok x y
  have s1 := rowF_spec ok (x - 1) y
  have s2 := rowF_spec ok (x + 1) y
  have s3 := rowF_spec ok x (y - 1)
  have s4 := rowF_spec ok x (y + 1)
  have on : onA r x y = true ↔ (inA r x y = true ∧ ¬ (inA r (x - 1) y = true ∧ inA r (x + 1) y = true ∧ inA r x (y - 1) = true ∧ inA r x (y + 1) = true)) := by
    unfold onA
    cases inA r x y <;> cases inA r (x - 1) y <;> cases inA r (x + 1) y <;> cases inA r x (y - 1) <;> cases inA r x (y + 1) <;> simp
  rw [s0, s1, s2, s3, s4] at on
  rw [Bool.eq_iff_iff, Bool.and_eq_true, decide_eq_true_iff, on]
  clear s0 s1 s2 s3 s4 on
  unfold ringP
  generalize rowF r y = s at *
  generalize rowF r (y - 1) = a at *
  generalize rowF r (y + 1) = b at *
  obtain ⟨p1, p2⟩ := s
  obtain ⟨a1, a2⟩ := a
  obtain ⟨b1, b2⟩ := b
  dsimp only at hs ⊢
  split
  · rw [has_putF, decide_eq_true_iff]
    dsimp only
    omega
  · rw [hasR_append, has_putF, has_putF, Bool.or_eq_true, decide_eq_true_iff, decide_eq_true_iff]
    dsimp only
    omega
theorem ring_hasR {r : RC} (ok : aok r) (x y : Int) : hasR (ringL r) x y = onA r x y := by
  rw [Bool.eq_iff_iff, hasR_iff]
  unfold ringL
  constructor
  · rintro ⟨q, hq, h⟩
    obtain ⟨p, hp, hq⟩ := List.mem_flatMap.1 hq
    obtain ⟨e, e2⟩ := (mem_rowsF ok).1 hp
    obtain ⟨p1, p2⟩ := p
    dsimp only at e e2 hq
    subst e
    have := ringP_has ok (x := x) e2 y
    rw [show hasR (ringP r p1 (rowF r p1)) x y = true from hasR_iff.2 ⟨q, hq, h⟩] at this
    have := Bool.and_eq_true_iff.1 this.symm
    rw [of_decide_eq_true this.1]; exact this.2
  · intro h
    have hin : inA r x y = true := (Bool.and_eq_true_iff.1 h).1
    have hs := (rowF_spec ok x y).1 hin
    have hp : (y, rowF r y) ∈ rowsF r r.h.toNat := (mem_rowsF ok).2 ⟨rfl, by dsimp only; omega⟩
    have := ringP_has ok (x := x) (show (rowF r y).1 < (rowF r y).2 by omega) y
    rw [decide_eq_true rfl, h] at this
    obtain ⟨q, hq, hh⟩ := hasR_iff.1 this
    exact ⟨q, List.mem_flatMap.2 ⟨_, hp, hq⟩, hh⟩
theorem putF_cnt {r : RC} (ok : aok r) {y : Int} {s : Int × Int} (hy : r.y ≤ y ∧ y < r.y + r.h) (h : r.x ≤ s.1 ∧ s.2 ≤ r.x + r.w) : ∀ q ∈ putF y s, q.cnt := by
  intro q hq
  unfold putF at hq
  split at hq
  · rw [List.mem_singleton.1 hq]
    obtain ⟨⟨⟨_, _⟩, _, _⟩, ⟨⟨_, _⟩, _, _⟩, _, _⟩ := ok
    unfold RC.cnt fitP
    dsimp only
    omega
  · cases hq
theorem disc_cnt {r : RC} (ok : aok r) : ∀ q ∈ discL r, q.cnt := by
  intro q hq
  obtain ⟨p, hp, hq⟩ := List.mem_flatMap.1 hq
  obtain ⟨e, e2⟩ := (mem_rowsF ok).1 hp
  rcases rowF_in ok p.1 with k | ⟨k1, k2, k3, k4, k5⟩
  · rw [e, k] at e2; cases e2
  · exact putF_cnt ok ⟨k4, k5⟩ (by rw [e]; exact ⟨k2, k3⟩) q hq
theorem ring_cnt {r : RC} (ok : aok r) : ∀ q ∈ ringL r, q.cnt := by
  intro q hq
  obtain ⟨p, hp, hq⟩ := List.mem_flatMap.1 hq
  obtain ⟨e, e2⟩ := (mem_rowsF ok).1 hp
  rcases rowF_in ok p.1 with k | ⟨k1, k2, k3, k4, k5⟩
  · rw [e, k] at e2; cases e2
  · unfold ringP at hq
    rw [e] at hq
    split at hq
    · exact putF_cnt ok ⟨k4, k5⟩ ⟨k2, k3⟩ q hq
    · rcases List.mem_append.1 hq with hq | hq
      · exact putF_cnt ok ⟨k4, k5⟩ (by dsimp only; omega) q hq
      · exact putF_cnt ok ⟨k4, k5⟩ (by dsimp only; omega) q hq
theorem putF_len (y : Int) (s : Int × Int) : (putF y s).length ≤ 1 := by unfold putF; split <;> simp
theorem ringP_len (r : RC) (y : Int) (s : Int × Int) : (ringP r y s).length ≤ 2 := by
  unfold ringP
  split
  · have := putF_len y s; omega
  · rw [List.length_append]
    have := putF_len y (s.1, max (max (s.1 + 1) (rowF r (y - 1)).1) (rowF r (y + 1)).1)
    have := putF_len y (min (min (s.2 - 1) (rowF r (y - 1)).2) (rowF r (y + 1)).2, s.2)
    omega
theorem rowsF_len (r : RC) (n : Nat) : (rowsF r n).length ≤ n := by
  have := len_flatMap_le (n := n) (c := 1) (f := fun j : Nat => if (rowF r (r.y + (j : Int))).1 < (rowF r (r.y + (j : Int))).2 then [(r.y + (j : Int), rowF r (r.y + (j : Int)))] else []) fun i _ => by split <;> simp
  unfold rowsF
  omega
theorem flatMap_len {α β : Type} {f : α → List β} {c : Nat} : ∀ {l : List α}, (∀ a ∈ l, (f a).length ≤ c) → (l.flatMap f).length ≤ l.length * c
  | [], _ => by simp
  | a :: l, h => by
    rw [List.flatMap_cons, List.length_append, List.length_cons, Nat.add_mul]
    have h1 := flatMap_len (l := l) fun b hb => h b (.tail _ hb)
    have h2 := h a (.head _)
    omega
theorem disc_has {r : RC} (ok : aok r) (x y : Int) : hasR (ofF (discL r)) x y = inA r x y := by rw [has_ofF, hasF_cnt (disc_cnt ok), disc_hasR ok]
theorem ring_has {r : RC} (ok : aok r) (x y : Int) : hasR (ofF (ringL r)) x y = onA r x y := by rw [has_ofF, hasF_cnt (ring_cnt ok), ring_hasR ok]
end Go.Proofs.Ytmkpffckhdofbaa
