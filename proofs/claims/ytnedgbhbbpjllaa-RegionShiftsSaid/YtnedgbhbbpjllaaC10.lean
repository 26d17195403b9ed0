/- region's functions on regions of small places. No condition. -/
import Derived.Test.YtnedgbhbbpjllaaC15
namespace Go.Proofs.Ytnedgbhbbpjllaa
open Go Go.VM
attribute [local irreducible] PurV Pur Step RL W D ACalls Then InBlock Fini
set_option linter.unusedVariables false
set_option linter.unusedSimpArgs false
set_option maxHeartbeats 20000000
theorem union_b (A B : List RC) (h : Heap) (a : Bx 0 28 A) (b : Bx 0 28 B) : ACalls Try.prog 16 [regE A, regE B] h (fun r h' => r = regE (ofF ((A) ++ (B))) ∧ h' = h) := union_c A B h a.can b.can (a.jok b (by omega)).la (a.jok b (by omega)).lb
theorem meet_b (A B : List RC) (h : Heap) (a : Bx 0 28 A) (b : Bx 0 28 B) : ACalls Try.prog 15 [regE A, regE B] h (fun r h' => r = regE (joinJ (fun p q => p && q) (A) (B)) ∧ h' = h) := meet_c A B h (a.jok b (by omega))
theorem minus_b (A B : List RC) (h : Heap) (a : Bx 0 28 A) (b : Bx 0 28 B) : ACalls Try.prog 19 [regE A, regE B] h (fun r h' => r = regE (joinJ (fun p q => p && !q) (A) (B)) ∧ h' = h) := minus_c A B h (a.jok b (by omega))
theorem xor_b (A B : List RC) (h : Heap) (a : Bx 0 28 A) (b : Bx 0 28 B) : ACalls Try.prog 18 [regE A, regE B] h (fun r h' => r = regE (joinJ (fun p q => p != q) (A) (B)) ∧ h' = h) := xor_c A B h (a.jok b (by omega))
theorem area_b (A : List RC) (h : Heap) (a : Bx 0 28 A) : ACalls Try.prog 20 [regE A] h (fun v h' => v = .val (.int .i64 (areaF A)) ∧ h' = h) := barea_c A h (by have := a.len; omega) (fun r hr => (a.can.cnt r hr).sm)
theorem same_t (A B : List RC) (h : Heap) (e : A = B) : ACalls Try.prog 17 [regE A, regE B] h (fun r h' => r = .val (.bool true) ∧ h' = h) := by
  have := same_c A B h
  rw [decide_eq_true e] at this
  exact this
theorem empty_t (A : List RC) (h : Heap) (e : A = []) : ACalls Try.prog 21 [regE A] h (fun r h' => r = .val (.bool true) ∧ h' = h) := by
  have := empty_c A h
  rw [decide_eq_true (show A.length = 0 by rw [e]; rfl)] at this
  exact this
theorem grid_add4 {K : Int} {n : Nat} {p q r s : Int → Int → Bool} (h : ∀ x y, ind (p x y) + ind (q x y) = ind (r x y) + ind (s x y)) : grid K n p + grid K n q = grid K n r + grid K n s := by
  unfold grid
  rw [← sumI_add, ← sumI_add]
  refine sumI_congr fun i _ => ?_
  rw [← sumI_add, ← sumI_add]
  exact sumI_congr fun j _ => h _ _
theorem area_bd {A : List RC} (a : Bx 0 28 A) : 0 ≤ areaF A ∧ areaF A ≤ 784 := by
  have h1 := len_area a.can.cnt
  have h2 := grid_top (K := 0) (n := 28) (p := hasR A)
  rw [← a.area] at h2
  omega
theorem of_not {r : RC} (h : ¬ r.cnt) : ofF [r] = [] := (can_of [r]).nil_iff.2 fun x y => by rw [has_ofF]; simp [hasF, h]
theorem of_cnt {r : RC} (h : r.cnt) : ofF [r] = [r] := by
  obtain ⟨⟨_, h1, _⟩, _, h2, _⟩ := id h
  have hB : CanB [⟨r.y, r.h, [(r.x, r.x + r.w)]⟩] := ⟨h2, by simp, ⟨by simp; omega, by simp⟩⟩
  rw [ofF_flat hB]
  · show [(⟨r.x, r.y, r.x + r.w - r.x, r.h⟩ : RC)] = [r]
    rw [show r.x + r.w - r.x = r.w by omega]
  · intro x y
    rw [hasF_iff]
    simp only [List.mem_singleton, exists_eq_left, inB, inS]
    unfold RC.has
    constructor
    · rintro ⟨_, h3, h4, h5, h6⟩; exact ⟨h5, h6, h3, h4⟩
    · rintro ⟨h5, h6, h3, h4⟩; exact ⟨h, h3, h4, h5, h6⟩
theorem empty_f (A : List RC) (h : Heap) (e : A ≠ []) : ACalls Try.prog 21 [regE A] h (fun r h' => r = .val (.bool false) ∧ h' = h) := by
  have := empty_c A h
  rw [decide_eq_false (show ¬ A.length = 0 from fun q => e (List.length_eq_zero_iff.1 q))] at this
  exact this
theorem inside_t (A B : List RC) (h : Heap) (a : Bx 0 28 A) (b : Bx 0 28 B) (e : (joinJ (fun p q => p && !q) (A) (B)) = []) : ACalls Try.prog 14 [regE A, regE B] h (fun r h' => r = .val (.bool true) ∧ h' = h) := by
  have := inside_c A B h (a.jok b (by omega))
  rw [decide_eq_true (show ((joinJ (fun p q => p && !q) (A) (B))).length = 0 by rw [e]; rfl)] at this
  exact this
end Go.Proofs.Ytnedgbhbbpjllaa
