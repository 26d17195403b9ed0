/- A region's box; places counted in a rectangle. No condition. -/
import Derived.Test.YtmfbfbhkjclhkaaW1
namespace Go.Proofs.Ytmfbfbhkjclhkaa
open Go Go.VM
set_option linter.unusedVariables false
set_option linter.unusedSimpArgs false
/-! Places of a rectangle, counted row by row -/
def gridR (x0 y0 : Int) (w h : Nat) (p : Int → Int → Bool) : Int := sumI h fun i => sumI w fun j => ind (p (x0 + (j : Int)) (y0 + (i : Int)))
def cntR (x0 y0 : Int) (w : Nat) (p : Int → Int → Bool) (i j : Nat) : Int := (sumI i fun i' => sumI w fun j' => ind (p (x0 + (j' : Int)) (y0 + (i' : Int)))) + sumI j fun j' => ind (p (x0 + (j' : Int)) (y0 + (i : Int)))
theorem cntR_j {x0 y0 : Int} {w : Nat} {p : Int → Int → Bool} {i j : Nat} : cntR x0 y0 w p i (j + 1) = cntR x0 y0 w p i j + ind (p (x0 + (j : Int)) (y0 + (i : Int))) := by
  unfold cntR; rw [Int.add_assoc]; rfl
theorem cntR_i {x0 y0 : Int} {w : Nat} {p : Int → Int → Bool} {i : Nat} : cntR x0 y0 w p (i + 1) 0 = cntR x0 y0 w p i w := by
  unfold cntR
  have : ∀ f, sumI 0 f = 0 := fun f => rfl
  rw [this, Int.add_zero]; rfl
theorem cntR_end {x0 y0 : Int} {w h : Nat} {p : Int → Int → Bool} : cntR x0 y0 w p h 0 = gridR x0 y0 w h p := by
  unfold cntR gridR
  have : ∀ f, sumI 0 f = 0 := fun f => rfl
  rw [this, Int.add_zero]
theorem cntR_in {x0 y0 : Int} {w : Nat} {p : Int → Int → Bool} {i j : Nat} : 0 ≤ cntR x0 y0 w p i j ∧ cntR x0 y0 w p i j ≤ i * w + j := by
  unfold cntR
  have h1 := sumI_low (n := i) (f := fun i' => sumI w fun j' => ind (p (x0 + (j' : Int)) (y0 + (i' : Int)))) fun i' _ => sumI_low fun j' _ => (ind_in _).1
  have h2 := sumI_low (n := j) (f := fun j' => ind (p (x0 + (j' : Int)) (y0 + (i : Int)))) fun j' _ => (ind_in _).1
  have h3 := sumI_top (n := i) (f := fun i' => sumI w fun j' => ind (p (x0 + (j' : Int)) (y0 + (i' : Int)))) (c := w) fun i' _ => by
    have := sumI_top (n := w) (f := fun j' => ind (p (x0 + (j' : Int)) (y0 + (i' : Int)))) (c := 1) fun j' _ => (ind_in _).2
    omega
  have h4 := sumI_top (n := j) (f := fun j' => ind (p (x0 + (j' : Int)) (y0 + (i : Int)))) (c := 1) fun j' _ => (ind_in _).2
  omega
theorem sumI_cut {f : Nat → Int} {h : Nat} : ∀ {n : Nat}, h ≤ n → (∀ i, h ≤ i → i < n → f i = 0) → sumI n f = sumI h f
  | 0, hn, _ => by rw [show h = 0 by omega]
  | n + 1, hn, hf => by
    rcases Nat.lt_or_ge n h with q | q
    · rw [show h = n + 1 by omega]
    · have e : sumI (n + 1) f = sumI n f + f n := rfl
      rw [e, hf n q (by omega), Int.add_zero, sumI_cut q fun i h1 h2 => hf i h1 (by omega)]
theorem fol_sh {a b : RC} {dx dy : Int} (h : fol a b) : fol (shR dx dy a) (shR dx dy b) := by
  unfold fol shR at *
  dsimp only
  omega
theorem areaF_gridR {x0 y0 : Int} {w h : Nat} {m : List RC} (hm : Can m) (hw : w ≤ 1000000) (hh : h ≤ 1000000) (hb : ∀ r ∈ m, (x0 ≤ r.x ∧ r.x + r.w ≤ x0 + w) ∧ y0 ≤ r.y ∧ r.y + r.h ≤ y0 + h) : areaF m = gridR x0 y0 w h (hasR m) := by
  have hc : ∀ r ∈ m.map (shR (-x0) (-y0)), r.cnt := fun r hr => by
    obtain ⟨q, hq, rfl⟩ := List.mem_map.1 hr
    have h1 := hb q hq
    obtain ⟨⟨_, h2, _⟩, _, h3, _⟩ := hm.cnt q hq
    unfold RC.cnt fitP shR
    dsimp only
    omega
  have hf : (m.map (shR (-x0) (-y0))).Pairwise fol := by rw [List.pairwise_map]; exact hm.fol.imp fol_sh
  have hbb : ∀ r ∈ m.map (shR (-x0) (-y0)), (0 ≤ r.x ∧ r.x + r.w ≤ w) ∧ 0 ≤ r.y ∧ r.y + r.h ≤ h := fun r hr => by
    obtain ⟨q, hq, rfl⟩ := List.mem_map.1 hr
    have h1 := hb q hq
    unfold shR
    dsimp only
    omega
  rw [← area_sh m (-x0) (-y0), areaF_grid (K := 0) (n := w + h) hc hf (fun r hr => by have := hbb r hr; push_cast; omega)]
  have hv : ∀ i j : Nat, hasR (m.map (shR (-x0) (-y0))) ((j : Int) - 0) ((i : Int) - 0) = hasR m (x0 + (j : Int)) (y0 + (i : Int)) := fun i j => by
    rw [← has_sh m (-x0) (-y0) (x0 + (j : Int)) (y0 + (i : Int)), show x0 + (j : Int) + -x0 = (j : Int) - 0 by omega, show y0 + (i : Int) + -y0 = (i : Int) - 0 by omega]
  have hz : ∀ i j : Nat, (w ≤ j ∨ h ≤ i) → hasR m (x0 + (j : Int)) (y0 + (i : Int)) = false := fun i j hij => hasR_none fun r hr hh => by
    have := hb r hr
    unfold RC.has at hh
    omega
  unfold grid gridR
  rw [sumI_cut (h := h) (by omega) fun i h1 h2 => sumI_zero fun j _ => by rw [hv, hz i j (.inr h1)]; rfl]
  refine sumI_congr fun i hi => ?_
  rw [sumI_cut (h := w) (by omega) fun j h1 h2 => by rw [hv, hz i j (.inl h1)]; rfl]
  exact sumI_congr fun j hj => by rw [hv]
theorem gridR_congr {x0 y0 : Int} {w h : Nat} {p q : Int → Int → Bool} (e : ∀ x y, p x y = q x y) : gridR x0 y0 w h p = gridR x0 y0 w h q := by
  unfold gridR
  exact sumI_congr fun i _ => sumI_congr fun j _ => by rw [e]
end Go.Proofs.Ytmfbfbhkjclhkaa
