/- A row's stretches, in plain words. No condition. -/
import Derived.Test.YtkeclfcjmdhcfaaO7
namespace Go.Proofs.Ytkeclfcjmdhcfaa
open Go Go.VM
set_option linter.unusedVariables false
set_option linter.unusedSimpArgs false
def inX (R : List RC) (x : Int) : Prop := ∃ r ∈ R, r.x ≤ x ∧ x < r.x + r.w
theorem inX_app {R T : List RC} {x : Int} : inX (R ++ T) x ↔ inX R x ∨ inX T x := by
  unfold inX
  constructor
  · rintro ⟨r, hr, h⟩
    rcases List.mem_append.1 hr with q | q
    · exact .inl ⟨r, q, h⟩
    · exact .inr ⟨r, q, h⟩
  · rintro (⟨r, q, h⟩ | ⟨r, q, h⟩)
    · exact ⟨r, List.mem_append_left _ q, h⟩
    · exact ⟨r, List.mem_append_right _ q, h⟩
theorem inX_one {r : RC} {x : Int} : inX [r] x ↔ r.x ≤ x ∧ x < r.x + r.w := by unfold inX; simp
theorem inX_nil {x : Int} : ¬ inX [] x := by rintro ⟨r, hr, _⟩; cases hr
structure RowOk (y lo hi : Int) (R : List RC) : Prop where
  ok : ∀ r ∈ R, r.y = y ∧ r.h = 1 ∧ 1 ≤ r.w ∧ lo ≤ r.x ∧ r.x + r.w ≤ hi
/-- One stretch more: the last one goes on, or a new one. -/
def addR (R : List RC) (a c y : Int) : List RC := match R.getLast? with
  | some r => if r.x + r.w = a then R.set (R.length - 1) ⟨r.x, r.y, r.w + (c - a), r.h⟩ else R ++ [⟨a, y, c - a, 1⟩]
  | none => R ++ [⟨a, y, c - a, 1⟩]
theorem set_last {R : List RC} {r s : RC} (h : R.getLast? = some r) : R = R.dropLast ++ [r] ∧ R.set (R.length - 1) s = R.dropLast ++ [s] := by
  have hne : R ≠ [] := by rintro rfl; cases h
  have e : R = R.dropLast ++ [r] := by
    have := List.dropLast_concat_getLast hne
    rw [List.getLast?_eq_some_getLast hne] at h
    injection h with h
    rw [h] at this
    exact this.symm
  refine ⟨e, ?_⟩
  have hl := List.length_pos_iff.2 hne
  conv => lhs; rw [e]
  rw [List.set_append_right _ _ (by rw [List.length_dropLast, List.length_append, List.length_dropLast]; simp)]
  rw [show (R.dropLast ++ [r]).length - 1 - R.dropLast.length = 0 by rw [List.length_append]; simp]
  rfl
theorem addR_in {R : List RC} {a c y : Int} (hac : a < c) (hw : ∀ r ∈ R, 1 ≤ r.w) (x : Int) : inX (addR R a c y) x ↔ inX R x ∨ (a ≤ x ∧ x < c) := by
  have app : inX (R ++ [⟨a, y, c - a, 1⟩]) x ↔ inX R x ∨ (a ≤ x ∧ x < c) := by
    rw [inX_app, inX_one]; dsimp only; rw [show a + (c - a) = c by omega]
  unfold addR
  split
  · rename_i r hr
    split
    · rename_i q
      obtain ⟨e1, e2⟩ := set_last (s := ⟨r.x, r.y, r.w + (c - a), r.h⟩) hr
      have w := hw r (List.mem_of_getLast? hr)
      rw [e2, inX_app, inX_one]
      conv => rhs; rw [e1, inX_app, inX_one]
      dsimp only
      constructor
      · rintro (h | h)
        · exact .inl (.inl h)
        · by_cases g : x < r.x + r.w
          · exact .inl (.inr ⟨h.1, g⟩)
          · exact .inr ⟨by omega, by omega⟩
      · rintro ((h | h) | h)
        · exact .inl h
        · exact .inr ⟨h.1, by omega⟩
        · exact .inr ⟨by omega, by omega⟩
    · exact app
  · exact app
theorem addR_ok {R : List RC} {a c y lo hi : Int} (hac : a < c) (ha : lo ≤ a) (hc : c ≤ hi) (h : RowOk y lo hi R) : RowOk y lo hi (addR R a c y) := by
  have app : RowOk y lo hi (R ++ [⟨a, y, c - a, 1⟩]) := ⟨fun r hr => by
    rcases List.mem_append.1 hr with q | q
    · exact h.ok r q
    · have : r = ⟨a, y, c - a, 1⟩ := by simpa using q
      subst this; dsimp only; omega⟩
  unfold addR
  split
  · rename_i r hr
    split
    · obtain ⟨e1, e2⟩ := set_last (s := ⟨r.x, r.y, r.w + (c - a), r.h⟩) hr
      have := h.ok r (List.mem_of_getLast? hr)
      refine ⟨fun s hs => ?_⟩
      rw [e2] at hs
      rcases List.mem_append.1 hs with q | q
      · exact h.ok s (by rw [e1]; exact List.mem_append_left _ q)
      · have : s = ⟨r.x, r.y, r.w + (c - a), r.h⟩ := by simpa using q
        subst this; dsimp only; omega
    · exact app
  · exact app
theorem turns_split {qs : List (Int × Int)} {x : Int} {j : Nat} (h1 : ∀ p ∈ qs.take j, p.1 ≤ x) (h2 : ∀ p ∈ qs.drop j, x < p.1) : turnsAt qs x = sumF (fun p : Int × Int => p.2) (qs.take j) := by
  unfold turnsAt
  have e : sumF (fun p : Int × Int => if p.1 ≤ x then p.2 else 0) qs = sumF (fun p : Int × Int => if p.1 ≤ x then p.2 else 0) (qs.take j ++ qs.drop j) := by rw [List.take_append_drop]
  rw [e, sumF_append, sumF_congr (g := fun p : Int × Int => p.2) fun p hp => if_pos (h1 p hp), sumF_congr (g := fun _ : Int × Int => (0 : Int)) fun p hp => if_neg (by have := h2 p hp; omega)]
  have z : ∀ l : List (Int × Int), sumF (fun _ => (0 : Int)) l = 0 := fun l => by
    induction l with
    | nil => rfl
    | cons a l ih => show 0 + _ = 0; omega
  rw [z, Int.add_zero]
theorem turns_perm {ps qs : List (Int × Int)} (h : qs.Perm ps) (x : Int) : turnsAt qs x = turnsAt ps x := sumF_perm h
theorem insF_0 (r : Int) : insF r 0 = false := by unfold insF; split <;> rfl
/-- What is known of a row on the way. -/
structure RowI (rule y lo hi : Int) (qs : List (Int × Int)) (i : Nat) (R : List RC) (t : Int) : Prop where
  le : i ≤ qs.length
  t : t = sumF (fun p : Int × Int => p.2) (qs.take i)
  ok : RowOk y lo hi R
  half : 2 * R.length ≤ i ∨ 2 * R.length ≤ i + 1 ∧ ∃ r p, R.getLast? = some r ∧ qs[i]? = some p ∧ r.x + r.w = p.1
  set : ∀ x, inX R x ↔ insF rule (turnsAt qs x) = true ∧ ∀ p, qs[i]? = some p → x < p.1
section
variable {rule y lo hi : Int} {qs : List (Int × Int)} (so : qs.Pairwise fun p q => p.1 ≤ q.1)
include so
theorem so_take {i : Nat} {p : Int × Int} (hp : qs[i]? = some p) : (∀ q ∈ qs.take (i + 1), q.1 ≤ p.1) ∧ ∀ q ∈ qs.drop i, p.1 ≤ q.1 := by
  obtain ⟨hi, hpe⟩ := List.getElem?_eq_some_iff.1 hp
  have key := List.pairwise_iff_getElem.1 so
  constructor
  · intro q hq
    obtain ⟨j, hj, rfl⟩ := List.mem_iff_getElem.1 hq
    rw [List.length_take] at hj
    rw [List.getElem_take, ← hpe]
    rcases (by omega : j < i ∨ j = i) with g | g
    · exact key j i (by omega) hi g
    · subst g; exact Int.le_refl _
  · intro q hq
    obtain ⟨j, hj, rfl⟩ := List.mem_iff_getElem.1 hq
    rw [List.length_drop] at hj
    rw [List.getElem_drop, ← hpe]
    rcases Nat.eq_zero_or_pos j with g | g
    · subst g; simp
    · exact key i (i + j) hi (by omega) (by omega)
theorem rowI_0 : RowI rule y lo hi qs 0 [] 0 := ⟨Nat.zero_le _, rfl, ⟨fun r hr => (by cases hr)⟩, .inl (Nat.le_refl _), fun x => ⟨fun h => absurd h inX_nil, fun ⟨h1, h2⟩ => by
  rw [turns_split (j := 0) (fun p hp => by cases hp) (fun p hp => ?_)] at h1
  · rw [show sumF (fun p : Int × Int => p.2) (qs.take 0) = 0 from rfl, insF_0] at h1; cases h1
  · cases qs with
    | nil => cases hp
    | cons q qs =>
      have := h2 q rfl
      have k := (so_take so (i := 0) (p := q) rfl).2 p hp
      omega⟩⟩
/-- Between one pass and the next one. -/
theorem turns_mid {i : Nat} {p : Int × Int} (hp : qs[i]? = some p) {x : Int} (h1 : p.1 ≤ x) (h2 : ∀ q, qs[i + 1]? = some q → x < q.1) : turnsAt qs x = sumF (fun p : Int × Int => p.2) (qs.take (i + 1)) := by
  refine turns_split (fun q hq => ?_) (fun q hq => ?_)
  · have := (so_take so hp).1 q hq; omega
  · cases h : qs[i + 1]? with
    | none =>
      have : qs.length ≤ i + 1 := List.getElem?_eq_none_iff.1 h
      rw [List.drop_eq_nil_of_le this] at hq; cases hq
    | some s =>
      have := (so_take so h).2 q hq
      have := h2 s h
      omega
theorem rowI_skip {i : Nat} {R : List RC} {t : Int} {p : Int × Int} (hp : qs[i]? = some p) (h : RowI rule y lo hi qs i R t) (h0 : sumF (fun p : Int × Int => p.2) qs = 0)
    (hs : i + 1 = qs.length ∨ (∃ q, qs[i + 1]? = some q ∧ q.1 = p.1) ∨ insF rule (t + p.2) = false) : RowI rule y lo hi qs (i + 1) R (t + p.2) := by
  have hlt := (List.getElem?_eq_some_iff.1 hp).1
  have et : t + p.2 = sumF (fun p : Int × Int => p.2) (qs.take (i + 1)) := by rw [sumF_take _ hp, ← h.t]
  refine ⟨hlt, et, h.ok, by rcases h.half with q | q <;> (left; omega), fun x => ?_⟩
  rw [h.set]
  constructor
  · rintro ⟨h1, h2⟩
    refine ⟨h1, fun q hq => ?_⟩
    have := h2 p hp
    have k := (so_take so hq).1 p (List.mem_of_getElem? (i := i) (by rw [List.getElem?_take, if_pos (by omega)]; exact hp))
    omega
  · rintro ⟨h1, h2⟩
    refine ⟨h1, fun q hq => ?_⟩
    rw [hp] at hq
    injection hq with hq
    subst hq
    rcases Int.lt_or_le x p.1 with g | g
    · exact g
    · exfalso
      rw [turns_mid so hp g h2, ← et] at h1
      rcases hs with e | ⟨q, e1, e2⟩ | e
      · rw [et, e, List.take_length, h0, insF_0] at h1; cases h1
      · have := h2 q e1; omega
      · rw [e] at h1; cases h1
omit so in
theorem addR_half {i : Nat} {R : List RC} {p q : Int × Int} (hp : qs[i]? = some p) (hq : qs[i + 1]? = some q) (h : 2 * R.length ≤ i ∨ 2 * R.length ≤ i + 1 ∧ ∃ r p, R.getLast? = some r ∧ qs[i]? = some p ∧ r.x + r.w = p.1) :
    2 * (addR R p.1 q.1 y).length ≤ i + 1 ∨ 2 * (addR R p.1 q.1 y).length ≤ i + 1 + 1 ∧ ∃ r p', (addR R p.1 q.1 y).getLast? = some r ∧ qs[i + 1]? = some p' ∧ r.x + r.w = p'.1 := by
  have hnew : addR R p.1 q.1 y = R ++ [⟨p.1, y, q.1 - p.1, 1⟩] → 2 * R.length ≤ i → 2 * (addR R p.1 q.1 y).length ≤ i + 1 ∨ 2 * (addR R p.1 q.1 y).length ≤ i + 1 + 1 ∧ ∃ r p', (addR R p.1 q.1 y).getLast? = some r ∧ qs[i + 1]? = some p' ∧ r.x + r.w = p'.1 := fun e h1 => by
    right
    rw [e]
    refine ⟨by rw [List.length_append]; simp; omega, ⟨p.1, y, q.1 - p.1, 1⟩, q, by simp, hq, ?_⟩
    dsimp only; omega
  cases hl : R.getLast? with
  | none =>
    have e : addR R p.1 q.1 y = R ++ [⟨p.1, y, q.1 - p.1, 1⟩] := by unfold addR; rw [hl]
    refine hnew e ?_
    rcases h with h | ⟨_, r, _, h, _⟩
    · exact h
    · rw [hl] at h; cases h
  | some r =>
    by_cases c : r.x + r.w = p.1
    · left
      have e : addR R p.1 q.1 y = R.set (R.length - 1) ⟨r.x, r.y, r.w + (q.1 - p.1), r.h⟩ := by unfold addR; rw [hl]; dsimp only; rw [if_pos c]
      rw [e, List.length_set]
      rcases h with h | ⟨h, _⟩ <;> omega
    · have e : addR R p.1 q.1 y = R ++ [⟨p.1, y, q.1 - p.1, 1⟩] := by unfold addR; rw [hl]; dsimp only; rw [if_neg c]
      refine hnew e ?_
      rcases h with h | ⟨_, s, p', h1, h2, h3⟩
      · exact h
      · rw [hl] at h1; injection h1 with h1; subst h1
        rw [hp] at h2; injection h2 with h2; subst h2
        exact absurd h3 c
theorem rowI_add {i : Nat} {R : List RC} {t : Int} {p q : Int × Int} (hp : qs[i]? = some p) (hq : qs[i + 1]? = some q) (h : RowI rule y lo hi qs i R t) (hne : ¬ q.1 = p.1) (hin : insF rule (t + p.2) = true) (hb : ∀ p ∈ qs, lo ≤ p.1 ∧ p.1 ≤ hi) : RowI rule y lo hi qs (i + 1) (addR R p.1 q.1 y) (t + p.2) := by
  have hlt := (List.getElem?_eq_some_iff.1 hp).1
  have et : t + p.2 = sumF (fun p : Int × Int => p.2) (qs.take (i + 1)) := by rw [sumF_take _ hp, ← h.t]
  have hpq : p.1 < q.1 := by
    have := (so_take so hq).1 p (List.mem_of_getElem? (i := i) (by rw [List.getElem?_take, if_pos (by omega)]; exact hp))
    omega
  refine ⟨hlt, et, addR_ok hpq (hb p (List.mem_of_getElem? hp)).1 (hb q (List.mem_of_getElem? hq)).2 h.ok, addR_half hp hq h.half, fun x => ?_⟩
  rw [addR_in hpq (fun r hr => (h.ok.ok r hr).2.2.1), h.set]
  constructor
  · rintro (⟨h1, h2⟩ | ⟨h1, h2⟩)
    · refine ⟨h1, fun s hs => ?_⟩
      have := h2 p hp
      rw [hq] at hs; injection hs with hs; subst hs; omega
    · refine ⟨?_, fun s hs => ?_⟩
      · rw [turns_mid so hp h1 (fun s hs => by rw [hq] at hs; injection hs with hs; subst hs; exact h2), ← et]; exact hin
      · rw [hq] at hs; injection hs with hs; subst hs; exact h2
  · rintro ⟨h1, h2⟩
    rcases Int.lt_or_le x p.1 with g | g
    · refine .inl ⟨h1, fun s hs => ?_⟩
      rw [hp] at hs; injection hs with hs; subst hs; exact g
    · exact .inr ⟨g, h2 q hq⟩
end
/-- A row as a whole. -/
structure RowF (rule y lo hi : Int) (l : List PT) (R : List RC) : Prop where
  ok : RowOk y lo hi R
  half : 2 * R.length ≤ l.length
  set : ∀ x, inX R x ↔ insF rule (turnsF l x y) = true
theorem rowF_of {rule y lo hi : Int} {l : List PT} {qs : List (Int × Int)} {R : List RC} {t : Int} (hp : qs.Perm (psF l y)) (h : RowI rule y lo hi qs qs.length R t) : RowF rule y lo hi l R := by
  refine ⟨h.ok, Nat.le_trans (m := qs.length) ?_ (by rw [hp.length_eq]; exact ps_len l y), fun x => ?_⟩
  · rcases h.half with q | ⟨_, _, p, _, q, _⟩
    · exact q
    · rw [List.getElem?_eq_none (Nat.le_refl _)] at q; cases q
  rw [h.set, turns_at, turns_perm hp]
  exact ⟨fun q => q.1, fun q => ⟨q, fun p hp => by rw [List.getElem?_eq_none (Nat.le_refl _)] at hp; cases hp⟩⟩
end Go.Proofs.Ytkeclfcjmdhcfaa
