/- Sums round a polygon: told as paths; what closes. A row of passes, in plain words. No condition. -/
import Derived.Test.YtkeclfcjmdhcfaaO3
namespace Go.Proofs.Ytkeclfcjmdhcfaa
open Go Go.VM
set_option linter.unusedVariables false
set_option linter.unusedSimpArgs false
theorem sumF_perm {α : Type} {f : α → Int} {l m : List α} (h : l.Perm m) : sumF f l = sumF f m := by
  induction h with
  | nil => rfl
  | cons x _ ih => show f x + _ = f x + _; rw [ih]
  | swap x y l => show f y + (f x + sumF f l) = f x + (f y + sumF f l); omega
  | trans _ _ h1 h2 => rw [h1, h2]
theorem sumF_map {α β : Type} {f : β → Int} {g : α → β} : ∀ {l : List α}, sumF f (l.map g) = sumF (fun x => f (g x)) l
  | [] => rfl
  | x :: l => by show f (g x) + sumF f (l.map g) = _; rw [sumF_map]; rfl
theorem sumF_sub {α : Type} {f g : α → Int} : ∀ {l : List α}, sumF (fun x => f x - g x) l = sumF f l - sumF g l
  | [] => rfl
  | x :: l => by show f x - g x + sumF (fun x => f x - g x) l = f x + sumF f l - (g x + sumF g l); rw [sumF_sub]; omega
theorem sumF_add {α : Type} {f g : α → Int} : ∀ {l : List α}, sumF (fun x => f x + g x) l = sumF f l + sumF g l
  | [] => rfl
  | x :: l => by show f x + g x + sumF (fun x => f x + g x) l = f x + sumF f l + (g x + sumF g l); rw [sumF_add]; omega
theorem edges_zip (a : PT) (t : List PT) : edgesP (a :: t) = (a :: t).zip (t ++ [a]) := by
  apply List.ext_getElem?
  intro i
  by_cases h : i < (a :: t).length
  · rw [edges_at h]
    obtain ⟨h1, h2⟩ := ed_at h
    have h3 : (t ++ [a])[i]? = some (edP (a :: t) i).2 := by
      rw [List.length_cons] at h h2
      by_cases c : i < t.length
      · rw [List.getElem?_append_left c, ← h2, Nat.mod_eq_of_lt (by omega), List.getElem?_cons_succ]
      · have e : i = t.length := by omega
        subst e
        rw [List.getElem?_append_right (Nat.le_refl _), Nat.sub_self, ← h2, Nat.mod_self]; rfl
    rw [List.getElem?_zip_eq_some.2 ⟨h1, h3⟩]
  · rw [List.getElem?_eq_none (by rw [edges_len]; omega), List.getElem?_eq_none (by rw [List.length_zip, List.length_append]; simp at h ⊢; omega)]
/-- The sum along a path. -/
def pathS (f : PT → PT → Int) : List PT → Int
  | a :: b :: t => f a b + pathS f (b :: t)
  | _ => 0
theorem zip_path (f : PT → PT → Int) (c : PT) : ∀ (a : PT) (t : List PT), sumF (fun e : PT × PT => f e.1 e.2) ((a :: t).zip (t ++ [c])) = pathS f (a :: (t ++ [c]))
  | a, [] => by show f a c + 0 = f a c + 0; rfl
  | a, b :: t => by
    show f a b + sumF (fun e : PT × PT => f e.1 e.2) ((b :: t).zip (t ++ [c])) = f a b + pathS f (b :: (t ++ [c]))
    rw [zip_path f c b t]
def cycS (f : PT → PT → Int) (l : List PT) : Int := sumF (fun e : PT × PT => f e.1 e.2) (edgesP l)
theorem cyc_cons (f : PT → PT → Int) (a : PT) (t : List PT) : cycS f (a :: t) = pathS f (a :: (t ++ [a])) := by
  unfold cycS; rw [edges_zip, zip_path]
theorem path_app (f : PT → PT → Int) (c : PT) (m : List PT) : ∀ l : List PT, pathS f (l ++ c :: m) = pathS f (l ++ [c]) + pathS f (c :: m)
  | [] => by show pathS f (c :: m) = 0 + _; omega
  | [a] => by show f a c + pathS f (c :: m) = f a c + 0 + _; omega
  | a :: b :: l => by
    show f a b + pathS f (b :: l ++ c :: m) = f a b + pathS f (b :: l ++ [c]) + pathS f (c :: m)
    rw [path_app f c m (b :: l)]; omega
theorem cyc_rot (f : PT → PT → Int) (a : PT) : ∀ t : List PT, cycS f (t ++ [a]) = cycS f (a :: t)
  | [] => rfl
  | b :: t => by
    rw [cyc_cons, List.cons_append, cyc_cons, List.append_assoc]
    show pathS f (b :: (t ++ a :: [b])) = f a b + pathS f (b :: (t ++ [a]))
    have := path_app f a [b] (b :: t)
    rw [List.cons_append, List.cons_append] at this
    rw [this]
    show _ + (f a b + 0) = _
    omega
theorem cyc_turn (f : PT → PT → Int) : ∀ u v : List PT, cycS f (v ++ u) = cycS f (u ++ v)
  | [], v => by rw [List.append_nil]; rfl
  | a :: u, v => by
    have := cyc_turn f u (v ++ [a])
    rw [List.append_assoc] at this
    rw [show v ++ a :: u = v ++ ([a] ++ u) from rfl, this, ← List.append_assoc, cyc_rot]; rfl
/-- Told the other way round. -/
theorem path_rev {f g : PT → PT → Int} (h : ∀ a b, g a b = -f b a) : ∀ l : List PT, pathS g l.reverse = -pathS f l
  | [] => rfl
  | [a] => rfl
  | a :: b :: t => by
    have ih := path_rev h (b :: t)
    rw [List.reverse_cons, List.reverse_cons, List.append_assoc, List.cons_append, List.nil_append, path_app, ← List.reverse_cons, ih]
    show -_ + (g b a + 0) = -(f a b + _)
    rw [h]; omega
theorem cyc_rev {f g : PT → PT → Int} (h : ∀ a b, g a b = -f b a) (l : List PT) : cycS g l.reverse = -cycS f l := by
  cases l with
  | nil => rfl
  | cons a t =>
    rw [List.reverse_cons, cyc_rot, cyc_cons, cyc_cons, ← path_rev h]
    congr 1
    simp
/-- Cut in two. -/
theorem cyc_cut {f : PT → PT → Int} (h : ∀ a b, f a b = -f b a) (p q : PT) (u v w : List PT) : cycS f (p :: (v ++ [q])) + cycS f (q :: (w ++ u ++ [p])) = cycS f (u ++ p :: (v ++ q :: w)) := by
  rw [← cyc_turn, cyc_cons]
  have e1 : cycS f (q :: (w ++ u ++ [p])) = pathS f (q :: (w ++ u ++ [p])) + f p q := by
    rw [cyc_cons]
    have := path_app f p [q] (q :: (w ++ u))
    rw [show q :: (w ++ u ++ [p] ++ [q]) = q :: (w ++ u) ++ p :: [q] by simp, this]
    show _ + (f p q + 0) = _
    rw [Int.add_zero]; rfl
  have e2 : pathS f (p :: (v ++ [q] ++ [p])) = pathS f (p :: (v ++ [q])) + f q p := by
    have := path_app f q [p] (p :: v)
    rw [show p :: (v ++ [q] ++ [p]) = p :: v ++ q :: [p] by simp, this]
    show _ + (f q p + 0) = _
    rw [Int.add_zero]; rfl
  have e3 : cycS f (p :: (v ++ q :: w) ++ u) = pathS f (p :: (v ++ [q])) + pathS f (q :: (w ++ u ++ [p])) := by
    rw [List.cons_append, cyc_cons]
    have := path_app f q (w ++ u ++ [p]) (p :: v)
    rw [show p :: (v ++ q :: w ++ u ++ [p]) = p :: v ++ q :: (w ++ u ++ [p]) by simp, this]; rfl
  rw [e1, e2, e3, h q p]
  omega
theorem cyc_congr {f g : PT → PT → Int} {l : List PT} (h : ∀ a ∈ l, ∀ b ∈ l, f a b = g a b) : cycS f l = cycS g l := by
  unfold cycS
  exact sumF_congr fun e he => h _ (edges_mem he).1 _ (edges_mem he).2
theorem cyc_map (f : PT → PT → Int) (g : PT → PT) (l : List PT) : cycS f (l.map g) = cycS (fun a b => f (g a) (g b)) l := by
  cases l with
  | nil => rfl
  | cons a t =>
    rw [List.map_cons, cyc_cons, cyc_cons]
    have : ∀ m : List PT, pathS f (m.map g) = pathS (fun a b => f (g a) (g b)) m := by
      intro m
      induction m with
      | nil => rfl
      | cons a m ih =>
        cases m with
        | nil => rfl
        | cons b m => show f (g a) (g b) + pathS f ((b :: m).map g) = _; rw [ih]; rfl
    rw [← this]
    simp
/-- What a corner gives and the next one takes away. -/
theorem cyc_zero (g : PT → Int) (l : List PT) : cycS (fun a b => g b - g a) l = 0 := by
  cases l with
  | nil => rfl
  | cons a t =>
    rw [cyc_cons]
    have : ∀ (a : PT) (m : List PT) (c : PT), pathS (fun a b => g b - g a) (a :: (m ++ [c])) = g c - g a := by
      intro a m
      induction m generalizing a with
      | nil => intro c; show g c - g a + 0 = _; omega
      | cons b m ih => intro c; show g b - g a + pathS _ (b :: (m ++ [c])) = _; rw [ih b c]; omega
    rw [this]; omega
theorem turns_cyc (l : List PT) (x y : Int) : turnsF l x y = cycS (fun a b => tr (passE a b y) x) l := rfl
theorem twice_cyc (l : List PT) : twiceF l = cycS (fun a b => a.x * b.y - b.x * a.y) l := rfl
/-! the passes of a row -/
def psF (l : List PT) (y : Int) : List (Int × Int) := (edgesP l).filterMap fun e => passE e.1 e.2 y
def turnsAt (ps : List (Int × Int)) (x : Int) : Int := sumF (fun p : Int × Int => if p.1 ≤ x then p.2 else 0) ps
theorem turns_at (l : List PT) (x y : Int) : turnsF l x y = turnsAt (psF l y) x := by
  unfold turnsF psF turnsAt
  induction edgesP l with
  | nil => rfl
  | cons e es ih =>
    show tr (passE e.1 e.2 y) x + sumF _ es = _
    rw [ih]
    cases h : passE e.1 e.2 y with
    | none => rw [show (e :: es).filterMap (fun e : PT × PT => passE e.1 e.2 y) = _ from List.filterMap_cons_none (f := fun e : PT × PT => passE e.1 e.2 y) h]; show 0 + _ = _; omega
    | some p => rw [show (e :: es).filterMap (fun e : PT × PT => passE e.1 e.2 y) = _ from List.filterMap_cons_some (f := fun e : PT × PT => passE e.1 e.2 y) h]; rfl
def wayE (a b : PT) (y : Int) : Int := (if y < b.y then 1 else 0) - if y < a.y then 1 else 0
theorem way_eq (a b : PT) (y : Int) : (match passE a b y with | some p => p.2 | none => 0) = wayE a b y := by
  unfold passE passU wayE
  by_cases h1 : b.y < a.y
  · rw [if_pos h1]
    by_cases h2 : y < b.y ∨ a.y ≤ y
    · rw [if_pos h2]; dsimp only; split <;> split <;> omega
    · rw [if_neg h2]; dsimp only; rw [if_neg (by omega), if_pos (by omega)]; rfl
  · rw [if_neg h1]
    by_cases h2 : y < a.y ∨ b.y ≤ y
    · rw [if_pos h2]; dsimp only; split <;> split <;> omega
    · rw [if_neg h2]; dsimp only; rw [if_pos (by omega), if_neg (by omega)]; rfl
/-- As many edges go down as up. -/
theorem ps_zero (l : List PT) (y : Int) : sumF (fun p : Int × Int => p.2) (psF l y) = 0 := by
  have e : sumF (fun p : Int × Int => p.2) (psF l y) = cycS (fun a b => wayE a b y) l := by
    unfold psF cycS
    induction edgesP l with
    | nil => rfl
    | cons e es ih =>
      show _ = wayE e.1 e.2 y + sumF _ es
      rw [← ih, ← way_eq]
      cases h : passE e.1 e.2 y with
      | none => rw [show (e :: es).filterMap (fun e : PT × PT => passE e.1 e.2 y) = _ from List.filterMap_cons_none (f := fun e : PT × PT => passE e.1 e.2 y) h]; show _ = 0 + _; omega
      | some p => rw [show (e :: es).filterMap (fun e : PT × PT => passE e.1 e.2 y) = _ from List.filterMap_cons_some (f := fun e : PT × PT => passE e.1 e.2 y) h]; rfl
  rw [e]
  exact cyc_zero (fun a => if y < a.y then 1 else 0) l
theorem ps_len (l : List PT) (y : Int) : (psF l y).length ≤ l.length := by
  unfold psF
  exact Nat.le_trans (List.length_filterMap_le _ _) (by rw [edges_len]; exact Nat.le_refl _)
theorem ps_way {l : List PT} {y : Int} {p : Int × Int} (h : p ∈ psF l y) : p.2 = 1 ∨ p.2 = -1 := by
  obtain ⟨e, _, he⟩ := List.mem_filterMap.1 h
  exact pass_way he
/-- A pass lies between its edge's ends. -/
theorem passU_in {a b : PT} {y w : Int} {p : Int × Int} {lo hi : Int} (ha : lo ≤ a.x ∧ a.x ≤ hi) (hb : lo ≤ b.x ∧ b.x ≤ hi) (h : passU a b y w = some p) : (lo ≤ p.1 ∧ p.1 ≤ hi) ∧ a.y ≤ y ∧ y < b.y := by
  unfold passU at h
  split at h
  · cases h
  · rename_i n
    injection h with h
    subst h
    have hd : 0 < 2 * (b.y - a.y) := by omega
    refine ⟨⟨?_, ?_⟩, by omega, by omega⟩
    · have k := cdiv_le (u := (b.x - a.x) * (2 * (y - a.y) + 1) - (b.y - a.y)) hd (lo - a.x - 1)
      have k2 : ¬ (b.x - a.x) * (2 * (y - a.y) + 1) - (b.y - a.y) ≤ (lo - a.x - 1) * (2 * (b.y - a.y)) := by
        have e1 := Int.mul_nonneg (show 0 ≤ b.x - lo by omega) (show 0 ≤ 2 * (y - a.y) + 1 by omega)
        have e2 := Int.mul_nonneg (show 0 ≤ a.x - lo by omega) (show 0 ≤ 2 * (b.y - a.y) - (2 * (y - a.y) + 1) by omega)
        have e3 : (b.x - a.x) * (2 * (y - a.y) + 1) - (lo - a.x) * (2 * (b.y - a.y)) = (b.x - lo) * (2 * (y - a.y) + 1) + (a.x - lo) * (2 * (b.y - a.y) - (2 * (y - a.y) + 1)) := by grind
        have e4 : (lo - a.x - 1) * (2 * (b.y - a.y)) = (lo - a.x) * (2 * (b.y - a.y)) - 2 * (b.y - a.y) := by grind
        omega
      have : ¬ cdivP ((b.x - a.x) * (2 * (y - a.y) + 1) - (b.y - a.y)) (2 * (b.y - a.y)) ≤ lo - a.x - 1 := fun q => k2 (k.1 q)
      dsimp only
      omega
    · have k := cdiv_le (u := (b.x - a.x) * (2 * (y - a.y) + 1) - (b.y - a.y)) hd (hi - a.x)
      have k2 : (b.x - a.x) * (2 * (y - a.y) + 1) - (b.y - a.y) ≤ (hi - a.x) * (2 * (b.y - a.y)) := by
        have e1 := Int.mul_nonneg (show 0 ≤ hi - b.x by omega) (show 0 ≤ 2 * (y - a.y) + 1 by omega)
        have e2 := Int.mul_nonneg (show 0 ≤ hi - a.x by omega) (show 0 ≤ 2 * (b.y - a.y) - (2 * (y - a.y) + 1) by omega)
        have e3 : (hi - a.x) * (2 * (b.y - a.y)) - (b.x - a.x) * (2 * (y - a.y) + 1) = (hi - b.x) * (2 * (y - a.y) + 1) + (hi - a.x) * (2 * (b.y - a.y) - (2 * (y - a.y) + 1)) := by grind
        omega
      have := k.2 k2
      dsimp only
      omega
theorem ps_in {l : List PT} {y : Int} {p : Int × Int} {lo hi : Int} (hl : ∀ q ∈ l, lo ≤ q.x ∧ q.x ≤ hi) (h : p ∈ psF l y) : lo ≤ p.1 ∧ p.1 ≤ hi := by
  obtain ⟨e, he, hp⟩ := List.mem_filterMap.1 h
  obtain ⟨h1, h2⟩ := edges_mem he
  unfold passE at hp
  split at hp
  · exact (passU_in (hl _ h2) (hl _ h1) hp).1
  · exact (passU_in (hl _ h1) (hl _ h2) hp).1
/-- Outside of the corners' rows nothing passes. -/
theorem turns_out {l : List PT} {x y lo hi : Int} (hl : ∀ q ∈ l, lo ≤ q.y ∧ q.y ≤ hi) (h : y < lo ∨ hi ≤ y) : turnsF l x y = 0 := by
  rw [turns_cyc]
  rw [cyc_congr (g := fun a b => (0 : Int) - 0)]
  · exact cyc_zero (fun _ => 0) l
  · intro a ha b hb
    have h1 := hl a ha
    have h2 := hl b hb
    show tr (passE a b y) x = 0
    unfold passE passU
    split <;> (rw [if_pos (by omega)]; rfl)
end Go.Proofs.Ytkeclfcjmdhcfaa
