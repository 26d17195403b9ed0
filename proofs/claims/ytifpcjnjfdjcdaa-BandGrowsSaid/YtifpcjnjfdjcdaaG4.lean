/- Areas, counted place by place. No condition. -/
import Derived.Test.YtifpcjnjfdjcdaaG3
namespace Go.Proofs.Ytifpcjnjfdjcdaa
open Go Go.VM
set_option linter.unusedVariables false
set_option linter.unusedSimpArgs false
def sumI : Nat → (Nat → Int) → Int
  | 0, _ => 0
  | n + 1, f => sumI n f + f n
theorem sumI_congr : ∀ {n : Nat} {f g : Nat → Int}, (∀ i, i < n → f i = g i) → sumI n f = sumI n g
  | 0, _, _, _ => rfl
  | n + 1, f, g, h => by
    show sumI n f + f n = sumI n g + g n
    rw [sumI_congr fun i hi => h i (by omega), h n (by omega)]
theorem sumI_add : ∀ {n : Nat} {f g : Nat → Int}, sumI n (fun i => f i + g i) = sumI n f + sumI n g
  | 0, _, _ => rfl
  | n + 1, f, g => by
    show sumI n (fun i => f i + g i) + (f n + g n) = (sumI n f + f n) + (sumI n g + g n)
    rw [sumI_add]; omega
theorem sumI_le : ∀ {n : Nat} {f g : Nat → Int}, (∀ i, i < n → f i ≤ g i) → sumI n f ≤ sumI n g
  | 0, _, _, _ => Int.le_refl _
  | n + 1, f, g, h => by
    have h1 := sumI_le (n := n) fun i hi => h i (by omega)
    have h2 := h n (by omega)
    show sumI n f + f n ≤ sumI n g + g n
    omega
theorem sumI_zero : ∀ {n : Nat} {f : Nat → Int}, (∀ i, i < n → f i = 0) → sumI n f = 0
  | 0, _, _ => rfl
  | n + 1, f, h => by
    show sumI n f + f n = 0
    rw [sumI_zero fun i hi => h i (by omega), h n (by omega)]; rfl
theorem sumI_seg : ∀ (n a w : Nat) (c : Int), a + w ≤ n → sumI n (fun j => if a ≤ j ∧ j < a + w then c else 0) = (w : Int) * c
  | n, a, 0, c, h => by
    rw [sumI_zero fun i hi => if_neg (by omega)]; simp
  | 0, a, w + 1, c, h => by omega
  | n + 1, a, w + 1, c, h => by
    show sumI n (fun j => if a ≤ j ∧ j < a + (w + 1) then c else 0) + (if a ≤ n ∧ n < a + (w + 1) then c else 0) = _
    by_cases hl : a + (w + 1) ≤ n
    · rw [sumI_seg n a (w + 1) c hl, if_neg (by omega)]; omega
    · rw [if_pos (by omega), sumI_congr (g := fun j => if a ≤ j ∧ j < a + w then c else 0), sumI_seg n a w c (by omega)]
      · rw [Int.natCast_add, Int.add_mul]; simp
      · intro j hj
        by_cases ha : a ≤ j
        · rw [if_pos (by omega), if_pos (by omega)]
        · rw [if_neg (by omega), if_neg (by omega)]
def ind (b : Bool) : Int := if b then 1 else 0
theorem ind_le {a b : Bool} (h : a = true → b = true) : ind a ≤ ind b := by
  unfold ind
  cases a with
  | false => simp; split <;> omega
  | true => simp [h rfl]
def grid (K : Int) (n : Nat) (p : Int → Int → Bool) : Int := sumI n fun i => sumI n fun j => ind (p ((j : Int) - K) ((i : Int) - K))
theorem grid_congr {K : Int} {n : Nat} {p q : Int → Int → Bool} (h : ∀ x y, p x y = q x y) : grid K n p = grid K n q := by
  have : p = q := funext fun x => funext fun y => h x y
  rw [this]
theorem grid_le {K : Int} {n : Nat} {p q : Int → Int → Bool} (h : ∀ x y, p x y = true → q x y = true) : grid K n p ≤ grid K n q :=
  sumI_le fun i _ => sumI_le fun j _ => ind_le (h _ _)
theorem grid_or {K : Int} {n : Nat} {p q r : Int → Int → Bool} (h : ∀ x y, ind (p x y) = ind (q x y) + ind (r x y)) : grid K n p = grid K n q + grid K n r := by
  unfold grid
  rw [← sumI_add]
  exact sumI_congr fun i _ => by rw [← sumI_add]; exact sumI_congr fun j _ => h _ _
theorem grid_or_le {K : Int} {n : Nat} {p q r : Int → Int → Bool} (h : ∀ x y, p x y = true → q x y = true ∨ r x y = true) : grid K n p ≤ grid K n q + grid K n r := by
  unfold grid
  rw [← sumI_add]
  refine sumI_le fun i _ => ?_
  rw [← sumI_add]
  refine sumI_le fun j _ => ?_
  have := h ((j : Int) - K) ((i : Int) - K)
  generalize p ((j : Int) - K) ((i : Int) - K) = a at *
  generalize q ((j : Int) - K) ((i : Int) - K) = b at *
  generalize r ((j : Int) - K) ((i : Int) - K) = c at *
  unfold ind
  cases a <;> cases b <;> cases c <;> simp at this ⊢
theorem grid_box {K : Int} {n : Nat} {r : RC} (h1 : -K ≤ r.x) (h2 : 0 ≤ r.w) (h3 : r.x + r.w ≤ n - K) (h4 : -K ≤ r.y) (h5 : 0 ≤ r.h) (h6 : r.y + r.h ≤ n - K) : grid K n (fun x y => decide (r.has x y)) = r.w * r.h := by
  obtain ⟨a, ha⟩ := Int.eq_ofNat_of_zero_le (show 0 ≤ r.x + K by omega)
  obtain ⟨w, hw⟩ := Int.eq_ofNat_of_zero_le h2
  obtain ⟨c, hc⟩ := Int.eq_ofNat_of_zero_le (show 0 ≤ r.y + K by omega)
  obtain ⟨e, he⟩ := Int.eq_ofNat_of_zero_le h5
  have hrow : ∀ i : Nat, i < n → sumI n (fun j => ind (decide (r.has ((j : Int) - K) ((i : Int) - K)))) = if c ≤ i ∧ i < c + e then (w : Int) else 0 := by
    intro i hi
    by_cases hy : c ≤ i ∧ i < c + e
    · rw [if_pos hy, sumI_congr (g := fun j => if a ≤ j ∧ j < a + w then (1 : Int) else 0), sumI_seg n a w 1 (by omega)]
      · omega
      · intro j hj
        by_cases hx : a ≤ j ∧ j < a + w
        · have hp : r.has ((j : Int) - K) ((i : Int) - K) := by unfold RC.has; omega
          rw [if_pos hx, decide_eq_true hp]; rfl
        · have hp : ¬ r.has ((j : Int) - K) ((i : Int) - K) := by unfold RC.has; omega
          rw [if_neg hx, decide_eq_false hp]; rfl
    · rw [if_neg hy]
      refine sumI_zero fun j hj => ?_
      have hp : ¬ r.has ((j : Int) - K) ((i : Int) - K) := by unfold RC.has; omega
      rw [decide_eq_false hp]; rfl
  unfold grid
  rw [sumI_congr hrow, sumI_seg n c e w (by omega), hw, he, Int.mul_comm]
theorem fol_apart {a b : RC} (h : fol a b) {x y : Int} (ha : a.has x y) : ¬ b.has x y := by
  unfold RC.has at *
  rcases h with ⟨h1, h2, h3⟩ | h <;> omega
theorem areaF_grid {K : Int} {n : Nat} : ∀ {m : List RC}, (∀ r ∈ m, r.cnt) → m.Pairwise fol → (∀ r ∈ m, (-K ≤ r.x ∧ r.x + r.w ≤ n - K) ∧ -K ≤ r.y ∧ r.y + r.h ≤ n - K) → areaF m = grid K n (hasR m)
  | [], _, _, _ => by
    show (0 : Int) = _
    unfold grid
    exact (sumI_zero fun i _ => sumI_zero fun j _ => rfl).symm
  | r :: m, hc, hf, hb => by
    have e : areaF (r :: m) = r.w * r.h + areaF m := by simp [areaF]
    obtain ⟨⟨b1, b2⟩, b3, b4⟩ := hb r (.head _)
    obtain ⟨⟨_, c1, _⟩, ⟨_, c2, _⟩⟩ := hc r (.head _)
    rw [List.pairwise_cons] at hf
    rw [e, areaF_grid (fun q hq => hc q (.tail _ hq)) hf.2 (fun q hq => hb q (.tail _ hq)), ← grid_box (K := K) (n := n) (r := r) b1 (by omega) b2 b3 (by omega) b4]
    refine (grid_or fun x y => ?_).symm
    have e2 : hasR (r :: m) x y = (decide (r.has x y) || hasR m x y) := rfl
    rw [e2]
    by_cases hr : r.has x y
    · have : hasR m x y = false := hasR_none fun q hq => fol_apart (hf.1 q hq) hr
      rw [this, decide_eq_true hr]; rfl
    · rw [decide_eq_false hr]; simp [ind]
theorem areaF_ofF (l : List RC) : areaF (ofF l) = grid 1048576 2097152 (hasF l) := by
  rw [areaF_grid (K := 1048576) (n := 2097152) (ofF_cnt l) (ofF_fol l)]
  · exact grid_congr fun x y => has_ofF l x y
  · intro r hr
    obtain ⟨⟨a1, a2, a3⟩, ⟨a4, a5, a6⟩⟩ := ofF_cnt l r hr
    omega
theorem hasF_append {l m : List RC} {x y : Int} : hasF (l ++ m) x y = (hasF l x y || hasF m x y) := by
  unfold hasF; rw [List.any_append]
theorem area_grows (l : List RC) (r : RC) (hr : r.cnt) : areaF (ofF l) ≤ areaF (ofF (l ++ [r])) ∧ areaF (ofF (l ++ [r])) - areaF (ofF l) ≤ r.w * r.h := by
  rw [areaF_ofF, areaF_ofF]
  have hone : ∀ x y, hasF [r] x y = decide (r.has x y) := fun x y => by simp [hasF, hr]
  refine ⟨grid_le fun x y h => by rw [hasF_append, h]; rfl, ?_⟩
  obtain ⟨⟨a1, a2, a3⟩, ⟨a4, a5, a6⟩⟩ := hr
  rw [← grid_box (K := 1048576) (n := 2097152) (r := r) (by omega) (by omega) (by omega) (by omega) (by omega) (by omega)]
  have := grid_or_le (K := 1048576) (n := 2097152) (p := hasF (l ++ [r])) (q := hasF l) (r := fun x y => decide (r.has x y)) fun x y h => by
    rw [hasF_append, hone] at h
    simpa using h
  omega
end Go.Proofs.Ytifpcjnjfdjcdaa
