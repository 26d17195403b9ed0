/- Plain laws of regions of pens: a clip of more has no less; numbers made into a clip. No condition. -/
import Derived.Test.YtmfbfbhkjclhkaaN21
import Derived.Test.YtmfbfbhkjclhkaaN23
import Derived.Test.YtmfbfbhkjclhkaaC6
namespace Go.Proofs.Ytmfbfbhkjclhkaa
open Go Go.VM
set_option linter.unusedVariables false
set_option linter.unusedSimpArgs false
theorem sub_in {A B : List RC} (ha : Can A) (hb : Can B) (h : ∀ x y, hasR A x y = true → hasR B x y = true) : (joinJ (fun p q => p && !q) A B).length = 0 := by
  rw [List.length_eq_zero_iff, (can_join _ _ _).nil_iff]
  intro x y
  rw [has_join ha hb rfl]
  cases e : hasR A x y with
  | false => rfl
  | true => rw [h x y e]; rfl
/-- The first k fours of numbers, as a clip's. -/
def fourF (l : List Int) (i : Nat) : List Int := [l.getD (4 * i) 0, l.getD (4 * i + 1) 0, max (l.getD (4 * i + 2) 0) 0, max (l.getD (4 * i + 3) 0) 0]
def pqF (l : List Int) (k : Nat) : List Int := (List.range k).flatMap (fourF l)
theorem pq_succ (l : List Int) (k : Nat) : pqF l (k + 1) = pqF l k ++ fourF l k := by unfold pqF; rw [List.range_succ, List.flatMap_append]; simp
theorem pq_len (l : List Int) : ∀ k, (pqF l k).length = 4 * k
  | 0 => rfl
  | k + 1 => by rw [pq_succ, List.length_append, pq_len l k]; unfold fourF; simp; omega
theorem quads_app : ∀ (l m : List Int), l.length % 4 = 0 → quads (l ++ m) = quads l ++ quads m
  | [], m, _ => rfl
  | [_], m, h => by simp at h
  | [_, _], m, h => by simp at h
  | [_, _, _], m, h => by simp at h
  | a :: b :: c :: d :: t, m, h => by
    show _ :: quads (t ++ m) = _ :: (quads t ++ quads m)
    rw [quads_app t m (by simp only [List.length_cons] at h; omega)]
def rcI (l : List Int) (i : Nat) : RC := ⟨l.getD (4 * i) 0, l.getD (4 * i + 1) 0, max (l.getD (4 * i + 2) 0) 0, max (l.getD (4 * i + 3) 0) 0⟩
theorem quads_pq (l : List Int) : ∀ k, quads (pqF l k) = (List.range k).map (rcI l)
  | 0 => rfl
  | k + 1 => by
    rw [pq_succ, quads_app _ _ (by rw [pq_len]; omega), quads_pq l k, List.range_succ, List.map_append]
    rfl
theorem getD_in {l : List Int} (h : ∀ n ∈ l, -128 ≤ n ∧ n ≤ 127) (i : Nat) : -128 ≤ l.getD i 0 ∧ l.getD i 0 ≤ 127 := by
  rw [List.getD_eq_getElem?_getD]
  cases e : l[i]? with
  | none => exact ⟨by decide, by decide⟩
  | some a => exact h a (List.mem_of_getElem? e)
theorem rcI_rt {l : List Int} (h : ∀ n ∈ l, -128 ≤ n ∧ n ≤ 127) (i : Nat) : (rcI l i).rt := by
  have h0 := getD_in h (4 * i); have h1 := getD_in h (4 * i + 1); have h2 := getD_in h (4 * i + 2); have h3 := getD_in h (4 * i + 3)
  unfold RC.rt placeP sideP rcI
  dsimp only
  omega
theorem all_rt {l : List RC} (h : ∀ r ∈ l, r.rt) : allRt l = true := allRt_iff.2 h
def cpP (x y : Int) (c : List RC) : PN := ⟨3, 255, 0, 1, 0, x, y, true, c⟩
theorem set_cp {x y : Int} (hx : -128 ≤ x ∧ x ≤ 127) (hy : -128 ≤ y ∧ y ≤ 127) {l : List Int} (h4 : l.length % 4 = 0) (hl : l.length ≤ 1024) (hr : ∀ r ∈ quads l, r.rt) : setF newF x y true l = (cpP x y (quads l), 0) := by
  unfold setF
  rw [if_neg (by decide), if_neg (fun q => q ⟨⟨by omega, by omega⟩, by omega, by omega⟩), if_neg (by rintro (⟨q, _⟩ | q); cases q; exact q h4), if_neg (by omega), if_pos (all_rt hr)]
  rfl
theorem chk_cp {x y : Int} (hx : -128 ≤ x ∧ x ≤ 127) (hy : -128 ≤ y ∧ y ≤ 127) {c : List RC} (hl : c.length ≤ 256) (hr : ∀ r ∈ c, r.rt) : chkF (cpP x y c) = 0 := by
  unfold chkF cpP
  dsimp only
  rw [if_neg (by decide), if_neg (fun q => q ⟨⟨by omega, by omega⟩, by omega, by omega⟩), if_neg (by rintro ⟨q, _⟩; cases q), if_neg (by omega), if_pos (all_rt hr)]
theorem cp_more {x y w g : Int} {c d : List RC} (hc : chkF (cpP x y c) = 0) (hd : chkF (cpP x y (c ++ d)) = 0) (u v : Int) (h : hasR (regP (cpP x y c) w g) u v = true) : hasR (regP (cpP x y (c ++ d)) w g) u v = true := by
  rw [regP_has hc, Bool.and_eq_true] at h
  rw [regP_has hd, Bool.and_eq_true]
  refine ⟨?_, h.2⟩
  have h1 : hasF (c.map (shR x y)) u v = true := h.1
  show hasF ((c ++ d).map (shR x y)) u v = true
  rw [List.map_append]
  unfold hasF at *
  rw [List.any_append, h1]; rfl
theorem cp_none {x y w g : Int} (hc : chkF (cpP x y []) = 0) : regP (cpP x y []) w g = [] := by
  rw [(regP_can _ _ _).nil_iff]
  intro u v
  rw [regP_has hc]
  rfl
theorem new_area : areaF (regP newF 60 60) = 3600 := by
  rw [(regP_bx (show chkF newF = 0 by decide) (n := 60) (by omega) (by omega)).area, show hasR (regP newF 60 60) = fun u v => ((!newF.cl || hasF (clP newF) u v) && hasF [plP 60 60] u v) from by funext u v; exact regP_has (by decide) 60 60 u v]
  decide +kernel
end Go.Proofs.Ytmfbfbhkjclhkaa
