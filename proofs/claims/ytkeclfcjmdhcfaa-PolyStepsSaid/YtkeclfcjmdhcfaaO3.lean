/- Sums over the edges of a polygon. No condition. -/
import Derived.Test.YtkeclfcjmdhcfaaO2
namespace Go.Proofs.Ytkeclfcjmdhcfaa
open Go Go.VM
set_option linter.unusedVariables false
set_option linter.unusedSimpArgs false
def sumF {α : Type} (f : α → Int) : List α → Int
  | [] => 0
  | x :: l => f x + sumF f l
theorem sumF_append {α : Type} (f : α → Int) : ∀ l m : List α, sumF f (l ++ m) = sumF f l + sumF f m
  | [], m => by show sumF f m = 0 + sumF f m; omega
  | x :: l, m => by show f x + sumF f (l ++ m) = f x + sumF f l + sumF f m; rw [sumF_append]; omega
theorem sumF_take {α : Type} (f : α → Int) {l : List α} {k : Nat} {x : α} (h : l[k]? = some x) : sumF f (l.take (k + 1)) = sumF f (l.take k) + f x := by
  rw [List.take_add_one, h, sumF_append]
  show _ + (f x + 0) = _
  omega
theorem sumF_bd {α : Type} {f : α → Int} {B : Int} (h0 : 0 ≤ B) : ∀ {l : List α}, (∀ x ∈ l, -B ≤ f x ∧ f x ≤ B) → -(l.length * B) ≤ sumF f l ∧ sumF f l ≤ l.length * B
  | [], _ => by simp [sumF]
  | x :: l, h => by
    have h1 := sumF_bd h0 (l := l) fun y hy => h y (.tail _ hy)
    have h2 := h x (.head _)
    have e : (((x :: l).length : Nat) : Int) * B = l.length * B + B := by rw [List.length_cons]; push_cast; rw [Int.add_mul, Int.one_mul]
    rw [e]
    show -_ ≤ f x + sumF f l ∧ f x + sumF f l ≤ _
    omega
theorem sumF_congr {α : Type} {f g : α → Int} : ∀ {l : List α}, (∀ x ∈ l, f x = g x) → sumF f l = sumF g l
  | [], _ => rfl
  | x :: l, h => by show f x + sumF f l = g x + sumF g l; rw [h x (.head _), sumF_congr fun y hy => h y (.tail _ hy)]
def edP (l : List PT) (i : Nat) : PT × PT := (l.getD i default, l.getD ((i + 1) % l.length) default)
def edgesP (l : List PT) : List (PT × PT) := (List.range l.length).map (edP l)
theorem edges_len (l : List PT) : (edgesP l).length = l.length := by unfold edgesP; simp
theorem edges_at {l : List PT} {i : Nat} (h : i < l.length) : (edgesP l)[i]? = some (edP l i) := by unfold edgesP; simp [h]
theorem ed_at {l : List PT} {i : Nat} (h : i < l.length) : l[i]? = some (edP l i).1 ∧ l[(i + 1) % l.length]? = some (edP l i).2 := by
  have h2 : (i + 1) % l.length < l.length := Nat.mod_lt _ (by omega)
  unfold edP
  simp [List.getD, List.getElem?_eq_getElem h, List.getElem?_eq_getElem h2]
theorem edges_mem {l : List PT} {e : PT × PT} (h : e ∈ edgesP l) : e.1 ∈ l ∧ e.2 ∈ l := by
  obtain ⟨i, hi, rfl⟩ := List.mem_map.1 h
  obtain ⟨h1, h2⟩ := ed_at (List.mem_range.1 hi)
  exact ⟨List.mem_of_getElem? h1, List.mem_of_getElem? h2⟩
theorem ed_near {l : List PT} (h : ∀ p ∈ l, p.near) {i : Nat} (hi : i < l.length) : (edP l i).1.near ∧ (edP l i).2.near := by
  obtain ⟨h1, h2⟩ := ed_at hi
  exact ⟨h _ (List.mem_of_getElem? h1), h _ (List.mem_of_getElem? h2)⟩
theorem tr_bd (o : Option (Int × Int)) (x : Int) (h : ∀ p, o = some p → p.2 = 1 ∨ p.2 = -1) : -1 ≤ tr o x ∧ tr o x ≤ 1 := by
  unfold tr
  split
  · have := h _ rfl
    split <;> omega
  · omega
theorem pass_way {a b : PT} {y : Int} {p : Int × Int} (h : passE a b y = some p) : p.2 = 1 ∨ p.2 = -1 := by
  unfold passE passU at h
  split at h <;> split at h <;> (first | (cases h; done) | (injection h with h; subst h; simp))
/-- How often a polygon turns round a place; twice its area. -/
def turnsF (l : List PT) (x y : Int) : Int := sumF (fun e => tr (passE e.1 e.2 y) x) (edgesP l)
def twiceF (l : List PT) : Int := sumF (fun e => e.1.x * e.2.y - e.2.x * e.1.y) (edgesP l)
def turnsX (l : List PT) (x y : Int) : Int := if rightF l = true ∧ nearI x ∧ nearI y then turnsF l x y else 0
def twiceX (l : List PT) : Int := if rightF l = true then twiceF l else 0
def insideX (r x y : Int) (l : List PT) : Bool := knownF r && insF r (turnsX l x y)
theorem rightF_len {l : List PT} (h : rightF l = true) : 3 ≤ l.length ∧ l.length ≤ 256 := by
  unfold rightF at h; rw [Bool.and_eq_true, decide_eq_true_iff] at h; exact h.1
theorem rightF_near {l : List PT} (h : rightF l = true) : ∀ p ∈ l, p.near := by
  unfold rightF at h; rw [Bool.and_eq_true] at h; exact allNear_iff.1 h.2
theorem trE_bd (e : PT × PT) (x y : Int) : -1 ≤ tr (passE e.1 e.2 y) x ∧ tr (passE e.1 e.2 y) x ≤ 1 := tr_bd _ _ fun p hp => pass_way hp
theorem tw_bd {a b : PT} (ha : a.near) (hb : b.near) : -2199023255552 ≤ a.x * b.y - b.x * a.y ∧ a.x * b.y - b.x * a.y ≤ 2199023255552 := by
  obtain ⟨⟨a1, a2⟩, a3, a4⟩ := ha
  obtain ⟨⟨b1, b2⟩, b3, b4⟩ := hb
  have m1 := mul_abs (a := a.x) (b := b.y) (A := 1048576) (B := 1048576) (by omega) (by omega)
  have m2 := mul_abs (a := b.x) (b := a.y) (A := 1048576) (B := 1048576) (by omega) (by omega)
  simp only [Int.reduceMul, Int.reduceNeg] at m1 m2
  omega
end Go.Proofs.Ytkeclfcjmdhcfaa
