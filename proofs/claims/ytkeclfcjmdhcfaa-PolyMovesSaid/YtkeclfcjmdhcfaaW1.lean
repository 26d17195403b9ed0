import Derived.Test.YtkeclfcjmdhcfaaG3
/- Areas, counted place by place. No condition. -/
namespace Go.Proofs.Ytkeclfcjmdhcfaa
open Go Go.VM
set_option linter.unusedVariables false
set_option linter.unusedSimpArgs false
def sumI : Nat → (Nat → Int) → Int
  | 0, _ => 0
  | n + 1, f => sumI n f + f n
theorem sumI_congr : ∀ {n : Nat} {f g : Nat → Int}, (∀ i, i < n → f i = g i) → sumI n f = sumI n g
  | 0, _, _, _ => rfl
  | n + 1, f, g, h => by
    show sumI n f + f n = sumI n g + g n
    rw [sumI_congr fun i hi => h i (by omega), h n (by omega)]
theorem sumI_add : ∀ {n : Nat} {f g : Nat → Int}, sumI n (fun i => f i + g i) = sumI n f + sumI n g
  | 0, _, _ => rfl
  | n + 1, f, g => by
    show sumI n (fun i => f i + g i) + (f n + g n) = (sumI n f + f n) + (sumI n g + g n)
    rw [sumI_add]; omega
theorem sumI_zero : ∀ {n : Nat} {f : Nat → Int}, (∀ i, i < n → f i = 0) → sumI n f = 0
  | 0, _, _ => rfl
  | n + 1, f, h => by
    show sumI n f + f n = 0
    rw [sumI_zero fun i hi => h i (by omega), h n (by omega)]; rfl
theorem sumI_seg : ∀ (n a w : Nat) (c : Int), a + w ≤ n → sumI n (fun j => if a ≤ j ∧ j < a + w then c else 0) = (w : Int) * c
  | n, a, 0, c, h => by
    rw [sumI_zero fun i hi => if_neg (by omega)]; simp
  | 0, a, w + 1, c, h => by omega
  | n + 1, a, w + 1, c, h => by
    show sumI n (fun j => if a ≤ j ∧ j < a + (w + 1) then c else 0) + (if a ≤ n ∧ n < a + (w + 1) then c else 0) = _
    by_cases hl : a + (w + 1) ≤ n
    · rw [sumI_seg n a (w + 1) c hl, if_neg (by omega)]; omega
    · rw [if_pos (by omega), sumI_congr (g := fun j => if a ≤ j ∧ j < a + w then c else 0), sumI_seg n a w c (by omega)]
      · rw [Int.natCast_add, Int.add_mul]; simp
      · intro j hj
        by_cases ha : a ≤ j
        · rw [if_pos (by omega), if_pos (by omega)]
        · rw [if_neg (by omega), if_neg (by omega)]
def ind (b : Bool) : Int := if b then 1 else 0
def grid (K : Int) (n : Nat) (p : Int → Int → Bool) : Int := sumI n fun i => sumI n fun j => ind (p ((j : Int) - K) ((i : Int) - K))
theorem grid_congr {K : Int} {n : Nat} {p q : Int → Int → Bool} (h : ∀ x y, p x y = q x y) : grid K n p = grid K n q := by
  have : p = q := funext fun x => funext fun y => h x y
  rw [this]
theorem grid_or {K : Int} {n : Nat} {p q r : Int → Int → Bool} (h : ∀ x y, ind (p x y) = ind (q x y) + ind (r x y)) : grid K n p = grid K n q + grid K n r := by
  unfold grid
  rw [← sumI_add]
  exact sumI_congr fun i _ => by rw [← sumI_add]; exact sumI_congr fun j _ => h _ _
theorem grid_box {K : Int} {n : Nat} {r : RC} (h1 : -K ≤ r.x) (h2 : 0 ≤ r.w) (h3 : r.x + r.w ≤ n - K) (h4 : -K ≤ r.y) (h5 : 0 ≤ r.h) (h6 : r.y + r.h ≤ n - K) : grid K n (fun x y => decide (r.has x y)) = r.w * r.h := by
  obtain ⟨a, ha⟩ := Int.eq_ofNat_of_zero_le (show 0 ≤ r.x + K by omega)
  obtain ⟨w, hw⟩ := Int.eq_ofNat_of_zero_le h2
  obtain ⟨c, hc⟩ := Int.eq_ofNat_of_zero_le (show 0 ≤ r.y + K by omega)
  obtain ⟨e, he⟩ := Int.eq_ofNat_of_zero_le h5
  have hrow : ∀ i : Nat, i < n → sumI n (fun j => ind (decide (r.has ((j : Int) - K) ((i : Int) - K)))) = if c ≤ i ∧ i < c + e then (w : Int) else 0 := by
    intro i hi
    by_cases hy : c ≤ i ∧ i < c + e
    · rw [if_pos hy, sumI_congr (g := fun j => if a ≤ j ∧ j < a + w then (1 : Int) else 0), sumI_seg n a w 1 (by omega)]
      · omega
      · intro j hj
        by_cases hx : a ≤ j ∧ j < a + w
        · have hp : r.has ((j : Int) - K) ((i : Int) - K) := by unfold RC.has; omega
          rw [if_pos hx, decide_eq_true hp]; rfl
        · have hp : ¬ r.has ((j : Int) - K) ((i : Int) - K) := by unfold RC.has; omega
          rw [if_neg hx, decide_eq_false hp]; rfl
    · rw [if_neg hy]
      refine sumI_zero fun j hj => ?_
      have hp : ¬ r.has ((j : Int) - K) ((i : Int) - K) := by unfold RC.has; omega
      rw [decide_eq_false hp]; rfl
  unfold grid
  rw [sumI_congr hrow, sumI_seg n c e w (by omega), hw, he, Int.mul_comm]
theorem fol_apart {a b : RC} (h : fol a b) {x y : Int} (ha : a.has x y) : ¬ b.has x y := by
  unfold RC.has at *
  rcases h with ⟨h1, h2, h3⟩ | h <;> omega
theorem areaF_grid {K : Int} {n : Nat} : ∀ {m : List RC}, (∀ r ∈ m, r.cnt) → m.Pairwise fol → (∀ r ∈ m, (-K ≤ r.x ∧ r.x + r.w ≤ n - K) ∧ -K ≤ r.y ∧ r.y + r.h ≤ n - K) → areaF m = grid K n (hasR m)
  | [], _, _, _ => by
    show (0 : Int) = _
    unfold grid
    exact (sumI_zero fun i _ => sumI_zero fun j _ => rfl).symm
  | r :: m, hc, hf, hb => by
    have e : areaF (r :: m) = r.w * r.h + areaF m := by simp [areaF]
    obtain ⟨⟨b1, b2⟩, b3, b4⟩ := hb r (.head _)
    obtain ⟨⟨_, c1, _⟩, ⟨_, c2, _⟩⟩ := hc r (.head _)
    rw [List.pairwise_cons] at hf
    rw [e, areaF_grid (fun q hq => hc q (.tail _ hq)) hf.2 (fun q hq => hb q (.tail _ hq)), ← grid_box (K := K) (n := n) (r := r) b1 (by omega) b2 b3 (by omega) b4]
    refine (grid_or fun x y => ?_).symm
    have e2 : hasR (r :: m) x y = (decide (r.has x y) || hasR m x y) := rfl
    rw [e2]
    by_cases hr : r.has x y
    · have : hasR m x y = false := hasR_none fun q hq => fol_apart (hf.1 q hq) hr
      rw [this, decide_eq_true hr]; rfl
    · rw [decide_eq_false hr]; simp [ind]
end Go.Proofs.Ytkeclfcjmdhcfaa
/- region's join in plain words: cells of the rows and columns at which rectangles begin or end; what places they have. No condition. -/
namespace Go.Proofs.Ytkeclfcjmdhcfaa
open Go Go.VM
set_option linter.unusedVariables false
set_option linter.unusedSimpArgs false
end Go.Proofs.Ytkeclfcjmdhcfaa
/- Rows of a region, asked from above; columns of a row, asked from the left. No condition. -/
namespace Go.Proofs.Ytkeclfcjmdhcfaa
open Go Go.VM
set_option linter.unusedVariables false
set_option linter.unusedSimpArgs false
end Go.Proofs.Ytkeclfcjmdhcfaa
/- Regions as sets of places: what lies in a square; unions, joins; how long the lists are. No condition. -/
namespace Go.Proofs.Ytkeclfcjmdhcfaa
open Go Go.VM
set_option linter.unusedVariables false
set_option linter.unusedSimpArgs false
/-- A region's own list. -/
def Can (l : List RC) : Prop := ofF l = l
theorem can_of (l : List RC) : Can (ofF l) := ofF_ofF l
theorem Can.cnt {l : List RC} (h : Can l) : ∀ r ∈ l, r.cnt := by
  have := ofF_cnt l; rw [h] at this; exact this
theorem Can.fol {l : List RC} (h : Can l) : l.Pairwise fol := by
  have := ofF_fol l; rw [h] at this; exact this
theorem Can.y {l : List RC} (h : Can l) : l.Pairwise fun a b => a.y ≤ b.y := by
  have := ofF_y l; rw [h] at this; exact this
theorem Can.hasF {l : List RC} (h : Can l) (x y : Int) : hasF l x y = hasR l x y := hasF_cnt h.cnt x y
theorem can_nil : Can [] := by
  have h : hasR (ofF []) = fun _ _ => false := by funext x y; rw [has_ofF]; rfl
  unfold Can
  cases e : ofF [] with
  | nil => rfl
  | cons r l =>
    have hr : r.cnt := ofF_cnt [] r (by rw [e]; exact .head _)
    have := congrFun (congrFun h r.x) r.y
    rw [e] at this
    have h2 : hasR (r :: l) r.x r.y = true := hasR_iff.2 ⟨r, .head _, by unfold RC.has; obtain ⟨⟨_, a, _⟩, _, b, _⟩ := hr; omega⟩
    rw [h2] at this; cases this
/-- A region within a square. -/
structure Bx (K : Int) (n : Nat) (l : List RC) : Prop where
  can : Can l
  inb : ∀ r ∈ l, (-K ≤ r.x ∧ r.x + r.w ≤ n - K) ∧ -K ≤ r.y ∧ r.y + r.h ≤ n - K
theorem Bx.of_has {K : Int} {n : Nat} {l : List RC} (hc : Can l) (h : ∀ x y, hasR l x y = true → (-K ≤ x ∧ x < n - K) ∧ -K ≤ y ∧ y < n - K) : Bx K n l := ⟨hc, fun r hr => by
  obtain ⟨⟨_, a, _⟩, _, b, _⟩ := hc.cnt r hr
  have h1 := h r.x r.y (hasR_iff.2 ⟨r, hr, by unfold RC.has; omega⟩)
  have h2 := h (r.x + r.w - 1) (r.y + r.h - 1) (hasR_iff.2 ⟨r, hr, by unfold RC.has; omega⟩)
  omega⟩
theorem Bx.wide {K K' : Int} {n n' : Nat} {l : List RC} (h : Bx K n l) (h1 : K ≤ K') (h2 : (n : Int) - K ≤ n' - K') : Bx K' n' l := ⟨h.can, fun r hr => by have := h.inb r hr; omega⟩
theorem Bx.area {K : Int} {n : Nat} {l : List RC} (h : Bx K n l) : areaF l = grid K n (hasR l) := areaF_grid h.can.cnt h.can.fol h.inb
theorem len_area : ∀ {l : List RC}, (∀ r ∈ l, r.cnt) → (l.length : Int) ≤ areaF l
  | [], _ => by simp [areaF]
  | r :: l, h => by
    have e : areaF (r :: l) = r.w * r.h + areaF l := by simp [areaF]
    obtain ⟨⟨_, a, _⟩, _, b, _⟩ := h r (.head _)
    have := len_area fun q hq => h q (.tail _ hq)
    have h1 : 1 * 1 ≤ r.w * r.h := Int.mul_le_mul (by omega) (by omega) (by omega) (by omega)
    rw [e, List.length_cons]
    push_cast
    omega
theorem sumI_top : ∀ {n : Nat} {f : Nat → Int} {c : Int}, (∀ i, i < n → f i ≤ c) → sumI n f ≤ n * c
  | 0, _, _, _ => by simp [sumI]
  | n + 1, f, c, h => by
    have h1 := sumI_top (n := n) (f := f) fun i hi => h i (by omega)
    have h2 := h n (by omega)
    have e : sumI (n + 1) f = sumI n f + f n := rfl
    rw [e, show ((n + 1 : Nat) : Int) * c = n * c + c by rw [Int.natCast_add, Int.add_mul]; simp]
    omega
theorem grid_top {K : Int} {n : Nat} {p : Int → Int → Bool} : grid K n p ≤ n * n := by
  unfold grid
  refine sumI_top fun i _ => ?_
  have := sumI_top (n := n) (f := fun j => ind (p ((j : Int) - K) ((i : Int) - K))) (c := 1) fun j _ => by unfold ind; split <;> omega
  omega
theorem Bx.len {K : Int} {n : Nat} {l : List RC} (h : Bx K n l) : l.length ≤ n * n := by
  have h1 := len_area h.can.cnt
  have h2 := grid_top (K := K) (n := n) (p := hasR l)
  rw [h.area] at h1
  have : ((n * n : Nat) : Int) = (n : Int) * n := by push_cast; rfl
  omega
end Go.Proofs.Ytkeclfcjmdhcfaa
/- Places counted one by one. No condition. -/
namespace Go.Proofs.Ytkeclfcjmdhcfaa
open Go Go.VM
set_option linter.unusedVariables false
set_option linter.unusedSimpArgs false
/-- What a count over a square, row by row, has come to. -/
def cntN (K : Int) (m : Nat) (p : Int → Int → Bool) (i j : Nat) : Int := (sumI i fun i' => sumI m fun j' => ind (p ((j' : Int) - K) ((i' : Int) - K))) + sumI j fun j' => ind (p ((j' : Int) - K) ((i : Int) - K))
theorem cntN_j {K : Int} {m : Nat} {p : Int → Int → Bool} {i j : Nat} : cntN K m p i (j + 1) = cntN K m p i j + ind (p ((j : Int) - K) ((i : Int) - K)) := by
  unfold cntN; rw [Int.add_assoc]; rfl
theorem cntN_i {K : Int} {m : Nat} {p : Int → Int → Bool} {i : Nat} : cntN K m p (i + 1) 0 = cntN K m p i m := by
  unfold cntN
  show _ + sumI m _ + sumI 0 _ = _
  have : ∀ f, sumI 0 f = 0 := fun f => rfl
  rw [this, Int.add_zero]
theorem cntN_end {K : Int} {m : Nat} {p : Int → Int → Bool} : cntN K m p m 0 = grid K m p := by
  unfold cntN grid
  have : ∀ f, sumI 0 f = 0 := fun f => rfl
  rw [this, Int.add_zero]
theorem sumI_low : ∀ {n : Nat} {f : Nat → Int}, (∀ i, i < n → 0 ≤ f i) → 0 ≤ sumI n f
  | 0, _, _ => Int.le_refl _
  | n + 1, f, h => by
    have h1 := sumI_low (n := n) (f := f) fun i hi => h i (by omega)
    have h2 := h n (by omega)
    have e : sumI (n + 1) f = sumI n f + f n := rfl
    omega
theorem ind_in (b : Bool) : 0 ≤ ind b ∧ ind b ≤ 1 := by unfold ind; split <;> omega
theorem cntN_in {K : Int} {m : Nat} {p : Int → Int → Bool} {i j : Nat} : 0 ≤ cntN K m p i j ∧ cntN K m p i j ≤ i * m + j := by
  unfold cntN
  have h1 := sumI_low (n := i) (f := fun i' => sumI m fun j' => ind (p ((j' : Int) - K) ((i' : Int) - K))) fun i' _ => sumI_low fun j' _ => (ind_in _).1
  have h2 := sumI_low (n := j) (f := fun j' => ind (p ((j' : Int) - K) ((i : Int) - K))) fun j' _ => (ind_in _).1
  have h3 := sumI_top (n := i) (f := fun i' => sumI m fun j' => ind (p ((j' : Int) - K) ((i' : Int) - K))) (c := m) fun i' _ => by
    have := sumI_top (n := m) (f := fun j' => ind (p ((j' : Int) - K) ((i' : Int) - K))) (c := 1) fun j' _ => (ind_in _).2
    omega
  have h4 := sumI_top (n := j) (f := fun j' => ind (p ((j' : Int) - K) ((i : Int) - K))) (c := 1) fun j' _ => (ind_in _).2
  omega
end Go.Proofs.Ytkeclfcjmdhcfaa
/- A region moved, far from the ends, is one: its list is moved. No condition. -/
namespace Go.Proofs.Ytkeclfcjmdhcfaa
open Go Go.VM
set_option linter.unusedVariables false
set_option linter.unusedSimpArgs false
end Go.Proofs.Ytkeclfcjmdhcfaa
