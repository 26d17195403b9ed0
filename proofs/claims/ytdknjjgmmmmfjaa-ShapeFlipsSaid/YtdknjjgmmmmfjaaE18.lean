/- Regions turned within a plane. No condition. -/
import Derived.Test.YtdknjjgmmmmfjaaE15
namespace Go.Proofs.Ytdknjjgmmmmfjaa
open Go Go.VM
set_option linter.unusedVariables false
set_option linter.unusedSimpArgs false
/-- A region within a plane. -/
structure Pl (w g : Nat) (l : List RC) : Prop where
  can : Can l
  inb : ∀ r ∈ l, (0 ≤ r.x ∧ r.x + r.w ≤ w) ∧ 0 ≤ r.y ∧ r.y + r.h ≤ g
def inP (w g : Nat) (x y : Int) : Bool := decide ((0 ≤ x ∧ x < w) ∧ 0 ≤ y ∧ y < g)
theorem inP_iff {w g : Nat} {x y : Int} : inP w g x y = true ↔ (0 ≤ x ∧ x < w) ∧ 0 ≤ y ∧ y < g := decide_eq_true_iff
theorem Pl.of_has {w g : Nat} {l : List RC} (hc : Can l) (h : ∀ x y, hasR l x y = true → inP w g x y = true) : Pl w g l := ⟨hc, fun r hr => by
  obtain ⟨⟨_, a, _⟩, _, b, _⟩ := hc.cnt r hr
  have h1 := inP_iff.1 (h r.x r.y (hasR_iff.2 ⟨r, hr, by unfold RC.has; omega⟩))
  have h2 := inP_iff.1 (h (r.x + r.w - 1) (r.y + r.h - 1) (hasR_iff.2 ⟨r, hr, by unfold RC.has; omega⟩))
  omega⟩
theorem Pl.has {w g : Nat} {l : List RC} (h : Pl w g l) {x y : Int} (hx : hasR l x y = true) : inP w g x y = true := by
  obtain ⟨r, hr, h1, h2, h3, h4⟩ := hasR_iff.1 hx
  have := h.inb r hr
  exact inP_iff.2 (by omega)
theorem Pl.bx {w g m : Nat} {l : List RC} (h : Pl w g l) (hw : w ≤ m) (hg : g ≤ m) : Bx 0 m l := ⟨h.can, fun r hr => by have := h.inb r hr; omega⟩
theorem plR_cnt {w g : Nat} (hw : 1 ≤ w ∧ w ≤ 1000) (hg : 1 ≤ g ∧ g ≤ 1000) : (plR w g).cnt := by unfold plR RC.cnt fitP; dsimp only; omega
theorem has_clip {w g : Nat} {A : List RC} (hA : Can A) (hw : 1 ≤ w ∧ w ≤ 1000) (hg : 1 ≤ g ∧ g ≤ 1000) (x y : Int) : hasR (clipF w g A) x y = (hasR A x y && inP w g x y) := by
  unfold clipF
  rw [has_join hA (can_of _) rfl, of_cnt (plR_cnt hw hg)]
  congr 1
  rw [Bool.eq_iff_iff, hasR_iff, inP_iff]
  constructor
  · rintro ⟨r, hr, h⟩
    have : r = plR w g := by simpa using hr
    subst this
    unfold plR RC.has at h
    dsimp only at h
    omega
  · intro h
    exact ⟨plR w g, .head _, by unfold plR RC.has; dsimp only; omega⟩
theorem clip_pl {w g : Nat} {A : List RC} (hA : Can A) (hw : 1 ≤ w ∧ w ≤ 1000) (hg : 1 ≤ g ∧ g ≤ 1000) : Pl w g (clipF w g A) := .of_has (can_join _ _ _) fun x y h => by
  rw [has_clip hA hw hg, Bool.and_eq_true] at h
  exact h.2
def flP (w g : Nat) (ac : Bool) (x y : Int) : Int × Int := if ac then (w - 1 - x, y) else (x, g - 1 - y)
theorem has_flip {w g : Nat} {A : List RC} (ac : Bool) (hA : Can A) (hw : 1 ≤ w ∧ w ≤ 1000) (hg : 1 ≤ g ∧ g ≤ 1000) (x y : Int) : hasR (flipF w g ac A) x y = hasR (clipF w g A) (flP w g ac x y).1 (flP w g ac x y).2 := by
  have hp := clip_pl (w := w) (g := g) hA hw hg
  unfold flipF
  generalize clipF w g A = C at *
  rw [has_ofF, Bool.eq_iff_iff, hasF_iff, hasR_iff]
  cases ac with
  | true =>
    simp only [flP, if_true]
    constructor
    · rintro ⟨q, hq, _, h⟩
      obtain ⟨r, hr, rfl⟩ := List.mem_map.1 hq
      exact ⟨r, hr, by unfold RC.has flX at *; dsimp only at h; omega⟩
    · rintro ⟨r, hr, h⟩
      have b := hp.inb r hr
      have c := hp.can.cnt r hr
      exact ⟨flX w r, List.mem_map.2 ⟨r, hr, rfl⟩, by unfold flX RC.cnt fitP at *; dsimp only; omega, by unfold RC.has flX at *; dsimp only; omega⟩
  | false =>
    simp only [flP, if_false, Bool.false_eq_true]
    constructor
    · rintro ⟨q, hq, _, h⟩
      obtain ⟨r, hr, rfl⟩ := List.mem_map.1 hq
      exact ⟨r, hr, by unfold RC.has flY at *; dsimp only at h; omega⟩
    · rintro ⟨r, hr, h⟩
      have b := hp.inb r hr
      have c := hp.can.cnt r hr
      exact ⟨flY g r, List.mem_map.2 ⟨r, hr, rfl⟩, by unfold flY RC.cnt fitP at *; dsimp only; omega, by unfold RC.has flY at *; dsimp only; omega⟩
theorem flP_in {w g : Nat} {ac : Bool} {x y : Int} : inP w g (flP w g ac x y).1 (flP w g ac x y).2 = inP w g x y := by
  rw [Bool.eq_iff_iff, inP_iff, inP_iff]
  cases ac <;> (simp only [flP, if_true, if_false, Bool.false_eq_true]; omega)
theorem flP_flP {w g : Nat} {ac : Bool} {x y : Int} : flP w g ac (flP w g ac x y).1 (flP w g ac x y).2 = (x, y) := by
  cases ac with
  | true => show ((w : Int) - 1 - ((w : Int) - 1 - x), y) = (x, y); rw [show (w : Int) - 1 - ((w : Int) - 1 - x) = x by omega]
  | false => show (x, (g : Int) - 1 - ((g : Int) - 1 - y)) = (x, y); rw [show (g : Int) - 1 - ((g : Int) - 1 - y) = y by omega]
theorem flip_pl {w g : Nat} {A : List RC} (ac : Bool) (hA : Can A) (hw : 1 ≤ w ∧ w ≤ 1000) (hg : 1 ≤ g ∧ g ≤ 1000) : Pl w g (flipF w g ac A) := .of_has (can_of _) fun x y h => by
  rw [has_flip ac hA hw hg] at h
  have := (clip_pl hA hw hg).has h
  rwa [flP_in] at this
/-- Turned twice. -/
theorem flip_flip {w g : Nat} {A : List RC} (ac : Bool) (hA : Can A) (hw : 1 ≤ w ∧ w ≤ 1000) (hg : 1 ≤ g ∧ g ≤ 1000) : flipF w g ac (flipF w g ac A) = clipF w g A := by
  have hF : Can (flipF w g ac A) := can_of _
  refine Can.eq (can_of _) (can_join _ _ _) fun x y => ?_
  rw [has_flip ac hF hw hg, has_clip hF hw hg, has_flip ac hA hw hg, flP_flP, flP_in]
  dsimp only
  cases h : hasR (clipF w g A) x y with
  | false => rfl
  | true => rw [(clip_pl hA hw hg).has h]; rfl
/-- What the law asks place by place. -/
theorem flip_at {w g : Nat} {A : List RC} (ac : Bool) (hA : Can A) (hw : 1 ≤ w ∧ w ≤ 1000) (hg : 1 ≤ g ∧ g ≤ 1000) {x y : Int} (hx : 0 ≤ x ∧ x < w) (hy : 0 ≤ y ∧ y < g) : hasR (flipF w g ac A) (flP w g ac x y).1 (flP w g ac x y).2 = hasR A x y := by
  rw [has_flip ac hA hw hg, flP_flP, has_clip hA hw hg]
  dsimp only
  rw [inP_iff.2 ⟨hx, hy⟩, Bool.and_true]
theorem sumI_rev : ∀ {n : Nat} {f : Nat → Int}, sumI n (fun j => f (n - 1 - j)) = sumI n f
  | 0, _ => rfl
  | n + 1, f => by
    have h1 : ∀ (m : Nat) (e : Nat → Int), sumI (m + 1) e = e 0 + sumI m (fun j => e (j + 1)) := fun m => by
      induction m with
      | zero => intro e; show sumI 0 e + e 0 = e 0 + sumI 0 _; rw [show ∀ f, sumI 0 f = 0 from fun f => rfl, show ∀ f, sumI 0 f = 0 from fun f => rfl, Int.add_comm]
      | succ m ih => intro e; show sumI (m + 1) e + e (m + 1) = e 0 + (sumI m (fun j => e (j + 1)) + e (m + 1)); rw [ih e, Int.add_assoc]
    rw [h1]
    have e1 : sumI n (fun j => f (n + 1 - 1 - (j + 1))) = sumI n (fun j => f (n - 1 - j)) := sumI_congr fun j hj => by congr 1; omega
    rw [e1, sumI_rev (n := n) (f := f), Int.add_comm]
    rfl
theorem pl_area {w g : Nat} {l : List RC} (h : Pl w g l) (hw : w ≤ 1000) (hg : g ≤ 1000) : areaF l = gridR 0 0 w g (hasR l) := areaF_gridR h.can (by omega) (by omega) fun r hr => by have := h.inb r hr; omega
theorem gridR_on {w g : Nat} {p q : Int → Int → Bool} (e : ∀ x y, inP w g x y = true → p x y = q x y) : gridR 0 0 w g p = gridR 0 0 w g q := by
  unfold gridR
  refine sumI_congr fun i hi => sumI_congr fun j hj => ?_
  rw [e _ _ (inP_iff.2 (by omega))]
theorem gridR_fl {w g : Nat} {p : Int → Int → Bool} (ac : Bool) : gridR 0 0 w g (fun x y => p (flP w g ac x y).1 (flP w g ac x y).2) = gridR 0 0 w g p := by
  unfold gridR
  cases ac with
  | true =>
    refine sumI_congr fun i hi => ?_
    rw [← sumI_rev (n := w) (f := fun j => ind (p (0 + (j : Int)) (0 + (i : Int))))]
    refine sumI_congr fun j hj => ?_
    simp only [flP, if_true]
    rw [show (w : Int) - 1 - (0 + (j : Int)) = 0 + ((w - 1 - j : Nat) : Int) by omega]
  | false =>
    rw [← sumI_rev (n := g) (f := fun i => sumI w fun j => ind (p (0 + (j : Int)) (0 + (i : Int))))]
    refine sumI_congr fun i hi => sumI_congr fun j hj => ?_
    simp only [flP, if_false, Bool.false_eq_true]
    rw [show (g : Int) - 1 - (0 + (i : Int)) = 0 + ((g - 1 - i : Nat) : Int) by omega]
theorem clip_area {w g : Nat} {A : List RC} (hA : Can A) (hw : 1 ≤ w ∧ w ≤ 1000) (hg : 1 ≤ g ∧ g ≤ 1000) : areaF (clipF w g A) = gridR 0 0 w g (hasR A) := by
  rw [pl_area (clip_pl hA hw hg) hw.2 hg.2]
  exact gridR_on fun x y h => by rw [has_clip hA hw hg, h, Bool.and_true]
theorem flip_area {w g : Nat} {A : List RC} (ac : Bool) (hA : Can A) (hw : 1 ≤ w ∧ w ≤ 1000) (hg : 1 ≤ g ∧ g ≤ 1000) : areaF (flipF w g ac A) = gridR 0 0 w g (hasR A) := by
  rw [pl_area (flip_pl ac hA hw hg) hw.2 hg.2, ← gridR_fl (p := hasR A) ac]
  refine gridR_on fun x y h => ?_
  rw [has_flip ac hA hw hg, has_clip hA hw hg, flP_in, h, Bool.and_true]
/-- The places of a plane that are had, as rectangles of one place each. -/
def rowL (p : Int → Int → Bool) (i j : Nat) : List RC := (List.range j).flatMap fun j' : Nat => if p (j' : Int) (i : Int) then [⟨j', i, 1, 1⟩] else []
def plL (p : Int → Int → Bool) (w i : Nat) : List RC := (List.range i).flatMap fun i' => rowL p i' w
theorem rowL_succ (p : Int → Int → Bool) (i j : Nat) : rowL p i (j + 1) = rowL p i j ++ if p (j : Int) (i : Int) then [⟨j, i, 1, 1⟩] else [] := by
  unfold rowL
  rw [List.range_succ, List.flatMap_append]
  simp only [List.flatMap_cons, List.flatMap_nil, List.append_nil]
theorem plL_succ (p : Int → Int → Bool) (w i : Nat) : plL p w (i + 1) = plL p w i ++ rowL p i w := by
  unfold plL
  rw [List.range_succ, List.flatMap_append]
  simp only [List.flatMap_cons, List.flatMap_nil, List.append_nil]
theorem rowL_len (p : Int → Int → Bool) (i : Nat) : ∀ j, (rowL p i j).length ≤ j
  | 0 => Nat.le_refl _
  | j + 1 => by
    have := rowL_len p i j
    rw [rowL_succ, List.length_append]
    split <;> simp <;> omega
theorem plL_len (p : Int → Int → Bool) (w : Nat) : ∀ i, (plL p w i).length ≤ i * w
  | 0 => by simp [plL]
  | i + 1 => by
    have := plL_len p w i
    have := rowL_len p i w
    rw [plL_succ, List.length_append, Nat.add_mul, Nat.one_mul]
    omega
theorem mem_plL {p : Int → Int → Bool} {w g : Nat} {r : RC} : r ∈ plL p w g ↔ ∃ i j : Nat, i < g ∧ j < w ∧ p (j : Int) (i : Int) = true ∧ r = ⟨j, i, 1, 1⟩ := by
  unfold plL rowL
  simp only [List.mem_flatMap, List.mem_range]
  constructor
  · rintro ⟨i, hi, j, hj, h⟩
    by_cases c : p (j : Int) (i : Int) = true
    · rw [if_pos c] at h
      exact ⟨i, j, hi, hj, c, by simpa using h⟩
    · rw [if_neg c] at h; cases h
  · rintro ⟨i, j, hi, hj, c, rfl⟩
    exact ⟨i, hi, j, hj, by rw [if_pos c]; exact .head _⟩
theorem plL_has {p : Int → Int → Bool} {w g : Nat} (hw : w ≤ 1000) (hg : g ≤ 1000) (x y : Int) : hasF (plL p w g) x y = (p x y && inP w g x y) := by
  rw [Bool.eq_iff_iff, hasF_iff, Bool.and_eq_true, inP_iff]
  constructor
  · rintro ⟨r, hr, _, h⟩
    obtain ⟨i, j, hi, hj, c, rfl⟩ := mem_plL.1 hr
    unfold RC.has at h
    dsimp only at h
    rw [show x = (j : Int) by omega, show y = (i : Int) by omega]
    exact ⟨c, by omega⟩
  · rintro ⟨c, hh⟩
    refine ⟨⟨x, y, 1, 1⟩, mem_plL.2 ⟨y.toNat, x.toNat, by omega, by omega, ?_, ?_⟩, ?_, ?_⟩
    · rw [show ((x.toNat : Nat) : Int) = x by omega, show ((y.toNat : Nat) : Int) = y by omega]; exact c
    · rw [show ((x.toNat : Nat) : Int) = x by omega, show ((y.toNat : Nat) : Int) = y by omega]
    · unfold RC.cnt fitP; dsimp only; omega
    · unfold RC.has; dsimp only; omega
theorem plL_ok {p : Int → Int → Bool} {w g : Nat} (hw : w ≤ 1000) (hg : g ≤ 1000) : ∀ r ∈ plL p w g, r.ok := fun r hr => by
  obtain ⟨i, j, hi, hj, c, rfl⟩ := mem_plL.1 hr
  constructor <;> (unfold I64; dsimp only; omega)
/-- They are what of a region lies in the plane. -/
theorem plL_clip {w g : Nat} {A : List RC} (hA : Can A) (hw : 1 ≤ w ∧ w ≤ 1000) (hg : 1 ≤ g ∧ g ≤ 1000) : ofF (plL (hasR A) w g) = clipF w g A :=
  Can.eq (can_of _) (can_join _ _ _) fun x y => by rw [has_ofF, plL_has hw.2 hg.2, has_clip hA hw hg]
end Go.Proofs.Ytdknjjgmmmmfjaa
