/- Laws of polygons, in plain words. No condition. -/
import Derived.Test.YtkeclfcjmdhcfaaO12
namespace Go.Proofs.Ytkeclfcjmdhcfaa
open Go Go.VM
set_option linter.unusedVariables false
set_option linter.unusedSimpArgs false
theorem trE_eq (a b : PT) (x y : Int) : tr (passE a b y) x = if b.y < a.y then trU b a x y (-1) else trU a b x y 1 := by
  unfold passE; split <;> rw [trU_eq]
theorem trU_neg (a b : PT) (x y w : Int) : trU a b x y (-w) = -trU a b x y w := by
  unfold trU; split
  · rfl
  · split <;> rfl
theorem trU_flat {a b : PT} (h : b.y ≤ a.y) (x y w : Int) : trU a b x y w = 0 := by
  unfold trU; rw [if_pos (by omega)]
theorem trE_anti (a b : PT) (x y : Int) : tr (passE a b y) x = -tr (passE b a y) x := by
  rw [trE_eq, trE_eq]
  rcases Int.lt_trichotomy a.y b.y with h | h | h
  · rw [if_neg (by omega), if_pos h, trU_neg]; omega
  · rw [if_neg (by omega), if_neg (by omega), trU_flat (by omega), trU_flat (by omega)]; rfl
  · rw [if_pos h, if_neg (by omega), trU_neg]
theorem tw_anti (a b : PT) : a.x * b.y - b.x * a.y = -(b.x * a.y - a.x * b.y) := by omega
def mvP (dx dy : Int) (p : PT) : PT := ⟨p.x + dx, p.y + dy⟩
theorem trE_sh (dx dy : Int) (a b : PT) (x y : Int) : tr (passE (mvP dx dy a) (mvP dx dy b) (y + dy)) (x + dx) = tr (passE a b y) x := by
  have key : ∀ (a b : PT) (w : Int), trU (mvP dx dy a) (mvP dx dy b) (x + dx) (y + dy) w = trU a b x y w := fun a b w => by
    unfold trU mvP
    dsimp only
    have e1 : b.y + dy - (a.y + dy) = b.y - a.y := by omega
    have e2 : b.x + dx - (a.x + dx) = b.x - a.x := by omega
    have e3 : 2 * (y + dy) + 1 - 2 * (a.y + dy) = 2 * y + 1 - 2 * a.y := by omega
    rw [e1, e2, e3]
    have e4 : ((2 * (x + dx) + 1) * (b.y - a.y) < 2 * (a.x + dx) * (b.y - a.y) + (2 * y + 1 - 2 * a.y) * (b.x - a.x)) ↔ ((2 * x + 1) * (b.y - a.y) < 2 * a.x * (b.y - a.y) + (2 * y + 1 - 2 * a.y) * (b.x - a.x)) := by
      have h1 : (2 * (x + dx) + 1) * (b.y - a.y) = (2 * x + 1) * (b.y - a.y) + 2 * dx * (b.y - a.y) := by grind
      have h2 : 2 * (a.x + dx) * (b.y - a.y) = 2 * a.x * (b.y - a.y) + 2 * dx * (b.y - a.y) := by grind
      rw [h1, h2]
      generalize (2 * x + 1) * (b.y - a.y) = p1
      generalize 2 * dx * (b.y - a.y) = p2
      generalize 2 * a.x * (b.y - a.y) = p3
      generalize (2 * y + 1 - 2 * a.y) * (b.x - a.x) = p4
      omega
    by_cases g : y < a.y ∨ b.y ≤ y
    · rw [if_pos g, if_pos (by omega)]
    · rw [if_neg g, if_neg (by omega)]
      by_cases g2 : (2 * x + 1) * (b.y - a.y) < 2 * a.x * (b.y - a.y) + (2 * y + 1 - 2 * a.y) * (b.x - a.x)
      · rw [if_pos g2, if_pos (e4.2 g2)]
      · rw [if_neg g2, if_neg (fun q => g2 (e4.1 q))]
  rw [trE_eq, trE_eq, key, key]
  have : ((mvP dx dy b).y < (mvP dx dy a).y) = (b.y < a.y) := by unfold mvP; dsimp only; exact propext (by omega)
  simp only [this]
theorem turns_sh (dx dy : Int) (l : List PT) (x y : Int) : turnsF (l.map (mvP dx dy)) (x + dx) (y + dy) = turnsF l x y := by
  rw [turns_cyc, turns_cyc, cyc_map]
  exact cyc_congr fun a _ b _ => trE_sh dx dy a b x y
theorem turns_rev (l : List PT) (x y : Int) : turnsF l.reverse x y = -turnsF l x y := by
  rw [turns_cyc, turns_cyc]; exact cyc_rev (fun a b => trE_anti a b x y) l
theorem twice_rev (l : List PT) : twiceF l.reverse = -twiceF l := by
  rw [twice_cyc, twice_cyc]; exact cyc_rev tw_anti l
theorem turns_turn (u v : List PT) (x y : Int) : turnsF (v ++ u) x y = turnsF (u ++ v) x y := by
  rw [turns_cyc, turns_cyc]; exact cyc_turn _ u v
theorem twice_turn (u v : List PT) : twiceF (v ++ u) = twiceF (u ++ v) := by
  rw [twice_cyc, twice_cyc]; exact cyc_turn _ u v
/-- Fewer than three corners have nothing. -/
theorem cyc_few {f : PT → PT → Int} (h : ∀ a b, f a b = -f b a) : ∀ {l : List PT}, l.length < 3 → cycS f l = 0
  | [], _ => rfl
  | [a], _ => by rw [cyc_cons]; show f a a + 0 = 0; have := h a a; omega
  | [a, b], _ => by rw [cyc_cons]; show f a b + (f b a + 0) = 0; have := h a b; omega
  | _ :: _ :: _ :: l, g => by simp at g; omega
theorem turns_few {l : List PT} (h : l.length < 3) (x y : Int) : turnsF l x y = 0 := by
  rw [turns_cyc]; exact cyc_few (fun a b => trE_anti a b x y) h
theorem twice_few {l : List PT} (h : l.length < 3) : twiceF l = 0 := by
  rw [twice_cyc]; exact cyc_few tw_anti h
theorem rightF_of {l : List PT} (h : ∀ p ∈ l, p.near) : rightF l = decide (3 ≤ l.length ∧ l.length ≤ 256) := by
  unfold rightF; rw [allNear_iff.2 h, Bool.and_true]
/-- Of near corners nothing is left out. -/
theorem turnsX_eq {l : List PT} (h : ∀ p ∈ l, p.near) (hl : l.length ≤ 256) {x y : Int} (hx : nearI x) (hy : nearI y) : turnsX l x y = turnsF l x y := by
  unfold turnsX
  rw [rightF_of h]
  by_cases g : 3 ≤ l.length
  · rw [if_pos ⟨by rw [decide_eq_true_iff]; omega, hx, hy⟩]
  · rw [if_neg (by rw [decide_eq_true_iff]; omega), turns_few (by omega)]
theorem twiceX_eq {l : List PT} (h : ∀ p ∈ l, p.near) (hl : l.length ≤ 256) : twiceX l = twiceF l := by
  unfold twiceX
  rw [rightF_of h]
  by_cases g : 3 ≤ l.length
  · rw [if_pos (by rw [decide_eq_true_iff]; omega)]
  · rw [if_neg (by rw [decide_eq_true_iff]; omega), twice_few (by omega)]
theorem odd_iff (t : Int) : insF 0 t = decide (t % 2 = 1) := by
  unfold insF
  rw [if_pos rfl]
  refine decide_eq_decide.2 ?_
  have e := Int.tmod_add_mul_tdiv t 2
  have h1 := Int.tmod_lt_of_pos t (show (0 : Int) < 2 by decide)
  have h2 := Int.lt_tmod_of_pos t (show (0 : Int) < 2 by decide)
  generalize t.tdiv 2 = q at *
  generalize t.tmod 2 = m at *
  omega
theorem insF_neg (r t : Int) : insF r (-t) = insF r t := by
  by_cases h : r = 0
  · subst h; rw [odd_iff, odd_iff]; exact decide_eq_decide.2 (by omega)
  · unfold insF; rw [if_neg h, if_neg h]; exact decide_eq_decide.2 (by omega)
theorem odd_add (s t : Int) : (insF 0 s != insF 0 t) = insF 0 (s + t) := by
  rw [odd_iff, odd_iff, odd_iff]
  rcases (by omega : s % 2 = 0 ∨ s % 2 = 1) with a | a <;> rcases (by omega : t % 2 = 0 ∨ t % 2 = 1) with b | b <;> (rw [a, b]; simp; omega)
/-- Cut in two from a corner to another one. -/
def oneP (l : List PT) (i k : Nat) : List PT := (l.drop i).take (k + 1 - i)
def twoP (l : List PT) (i k : Nat) : List PT := l.drop k ++ l.take (i + 1)
theorem cut_cyc {f : PT → PT → Int} (h : ∀ a b, f a b = -f b a) {l : List PT} {i k : Nat} (hi : i ≤ k) (hk : k < l.length) : cycS f (oneP l i k) + cycS f (twoP l i k) = cycS f l := by
  obtain ⟨p, hp⟩ : ∃ p, l[i]? = some p := ⟨_, List.getElem?_eq_getElem (by omega)⟩
  obtain ⟨q, hq⟩ : ∃ q, l[k]? = some q := ⟨_, List.getElem?_eq_getElem hk⟩
  have hdi : l.drop i = p :: l.drop (i + 1) := by obtain ⟨h1, h2⟩ := List.getElem?_eq_some_iff.1 hp; rw [← h2]; exact List.drop_eq_getElem_cons h1
  have hdk : l.drop k = q :: l.drop (k + 1) := by obtain ⟨h1, h2⟩ := List.getElem?_eq_some_iff.1 hq; rw [← h2]; exact List.drop_eq_getElem_cons h1
  have htw : twoP l i k = q :: (l.drop (k + 1) ++ l.take i ++ [p]) := by
    unfold twoP
    rw [hdk, List.take_add_one, hp]
    simp
  rcases Nat.eq_or_lt_of_le hi with e | hlt
  · subst e
    have e1 : oneP l i i = [p] := by unfold oneP; rw [hdi, show i + 1 - i = 1 by omega]; rfl
    have epq : p = q := by rw [hp] at hq; injection hq
    subst epq
    rw [e1, htw, cyc_few h (by simp : ([p] : List PT).length < 3)]
    have e2 : l = l.take i ++ p :: l.drop (i + 1) := by rw [← hdi, List.take_append_drop]
    conv => rhs; rw [e2]
    rw [← cyc_turn, List.cons_append, cyc_cons, cyc_cons]
    have := path_app f p [p] (p :: (l.drop (i + 1) ++ l.take i))
    rw [show p :: (l.drop (i + 1) ++ l.take i ++ [p] ++ [p]) = p :: (l.drop (i + 1) ++ l.take i) ++ p :: [p] by simp, this]
    have z : f p p = 0 := by have := h p p; omega
    show 0 + (_ + (f p p + 0)) = _
    rw [z]
    simp
  · have e1 : oneP l i k = p :: ((l.drop (i + 1)).take (k - i - 1) ++ [q]) := by
      unfold oneP
      rw [hdi, show k + 1 - i = (k - i - 1 + 1) + 1 by omega, List.take_succ_cons, List.take_add_one (i := k - i - 1), List.getElem?_drop, show i + 1 + (k - i - 1) = k by omega, hq]; rfl
    have e2 : l = l.take i ++ p :: ((l.drop (i + 1)).take (k - i - 1) ++ q :: l.drop (k + 1)) := by
      conv => lhs; rw [← List.take_append_drop i l, hdi]
      congr 2
      conv => lhs; rw [← List.take_append_drop (k - i - 1) (l.drop (i + 1)), List.drop_drop, show i + 1 + (k - i - 1) = k by omega, hdk]
    rw [e1, htw]
    conv => rhs; rw [e2]
    exact cyc_cut h p q _ _ _
theorem one_len {l : List PT} {i k : Nat} : (oneP l i k).length ≤ l.length := by unfold oneP; rw [List.length_take, List.length_drop]; omega
theorem two_len {l : List PT} {i k : Nat} (hi : i ≤ k) (hk : k < l.length) : (twoP l i k).length ≤ l.length + 1 := by unfold twoP; rw [List.length_append, List.length_drop, List.length_take]; omega
theorem one_mem {l : List PT} {i k : Nat} {p : PT} (h : p ∈ oneP l i k) : p ∈ l := List.mem_of_mem_drop (List.mem_of_mem_take h)
theorem two_mem {l : List PT} {i k : Nat} {p : PT} (h : p ∈ twoP l i k) : p ∈ l := by
  unfold twoP at h
  rcases List.mem_append.1 h with h | h
  · exact List.mem_of_mem_drop h
  · exact List.mem_of_mem_take h
/-! A rectangle's corners -/
def rectP (x y w h : Int) (t : Bool) : List PT := if t then [⟨x, y⟩, ⟨x, y + h⟩, ⟨x + w, y + h⟩, ⟨x + w, y⟩] else [⟨x, y⟩, ⟨x + w, y⟩, ⟨x + w, y + h⟩, ⟨x, y + h⟩]
theorem trU_up (a b : PT) (e : b.x = a.x) (x y w : Int) : trU a b x y w = if y < a.y ∨ b.y ≤ y then 0 else if x < a.x then 0 else w := by
  unfold trU
  by_cases g : y < a.y ∨ b.y ≤ y
  · rw [if_pos g, if_pos g]
  · rw [if_neg g, if_neg g, e, Int.sub_self, Int.mul_zero, Int.add_zero]
    have hd : 0 < b.y - a.y := by omega
    have : (2 * x + 1) * (b.y - a.y) < 2 * a.x * (b.y - a.y) ↔ x < a.x := by
      constructor
      · intro q; have := Int.lt_of_mul_lt_mul_right q (by omega); omega
      · intro q; exact Int.mul_lt_mul_of_pos_right (by omega) hd
    by_cases g2 : x < a.x
    · rw [if_pos g2, if_pos (this.2 g2)]
    · rw [if_neg g2, if_neg (fun q => g2 (this.1 q))]
theorem turns_rect0 {x y w h : Int} (hw : 1 ≤ w) (hh : 1 ≤ h) (u v : Int) : turnsF (rectP x y w h false) u v = if x ≤ u ∧ u < x + w ∧ y ≤ v ∧ v < y + h then -1 else 0 := by
  rw [turns_cyc]
  unfold rectP
  rw [if_neg (by decide), cyc_cons]
  show tr (passE ⟨x, y⟩ ⟨x + w, y⟩ v) u + (tr (passE ⟨x + w, y⟩ ⟨x + w, y + h⟩ v) u + (tr (passE ⟨x + w, y + h⟩ ⟨x, y + h⟩ v) u + (tr (passE ⟨x, y + h⟩ ⟨x, y⟩ v) u + 0))) = _
  rw [trE_eq, trE_eq, trE_eq, trE_eq]
  dsimp only
  rw [if_neg (by omega), if_neg (by omega), if_neg (by omega), if_pos (by omega), trU_flat (by dsimp only; omega), trU_flat (a := ⟨x + w, y + h⟩) (by dsimp only; omega), trU_up ⟨x + w, y⟩ ⟨x + w, y + h⟩ rfl, trU_up ⟨x, y⟩ ⟨x, y + h⟩ rfl]
  dsimp only
  by_cases g : v < y ∨ y + h ≤ v
  · rw [if_pos g, if_pos g, if_neg (by omega)]; rfl
  · rw [if_neg g, if_neg g]
    by_cases g1 : u < x + w
    · rw [if_pos g1]
      by_cases g2 : u < x
      · rw [if_pos g2, if_neg (by omega)]; rfl
      · rw [if_neg g2, if_pos (by omega)]; rfl
    · rw [if_neg g1, if_neg (by omega), if_neg (by omega)]; rfl
theorem rectP_rev (x y w h : Int) : rectP x y w h true = [⟨x, y⟩] ++ [⟨x, y + h⟩, ⟨x + w, y + h⟩, ⟨x + w, y⟩] ∧ (rectP x y w h false).reverse = [⟨x, y + h⟩, ⟨x + w, y + h⟩, ⟨x + w, y⟩] ++ [⟨x, y⟩] := ⟨rfl, rfl⟩
theorem turns_rect1 {x y w h : Int} (hw : 1 ≤ w) (hh : 1 ≤ h) (u v : Int) : turnsF (rectP x y w h true) u v = if x ≤ u ∧ u < x + w ∧ y ≤ v ∧ v < y + h then 1 else 0 := by
  obtain ⟨e1, e2⟩ := rectP_rev x y w h
  rw [e1, turns_turn, ← e2, turns_rev, turns_rect0 hw hh]
  split <;> rfl
theorem ins_rect {x y w h : Int} (hw : 1 ≤ w) (hh : 1 ≤ h) (t : Bool) (r u v : Int) : insF r (turnsF (rectP x y w h t) u v) = decide (x ≤ u ∧ u < x + w ∧ y ≤ v ∧ v < y + h) := by
  have k1 : insF r 1 = true := by unfold insF; split <;> decide
  have k0 : insF r 0 = false := by unfold insF; split <;> decide
  have k2 : insF r (-1) = true := by rw [insF_neg]; exact k1
  cases t
  · rw [turns_rect0 hw hh]
    by_cases g : x ≤ u ∧ u < x + w ∧ y ≤ v ∧ v < y + h
    · rw [if_pos g, k2, decide_eq_true g]
    · rw [if_neg g, k0, decide_eq_false g]
  · rw [turns_rect1 hw hh]
    by_cases g : x ≤ u ∧ u < x + w ∧ y ≤ v ∧ v < y + h
    · rw [if_pos g, k1, decide_eq_true g]
    · rw [if_neg g, k0, decide_eq_false g]
theorem twice_rect0 (x y w h : Int) : twiceF (rectP x y w h false) = 2 * w * h := by
  rw [twice_cyc]
  unfold rectP
  rw [if_neg (by decide), cyc_cons]
  show x * y - (x + w) * y + ((x + w) * (y + h) - (x + w) * y + ((x + w) * (y + h) - x * (y + h) + (x * y - x * (y + h) + 0))) = _
  grind
theorem twice_rect1 (x y w h : Int) : twiceF (rectP x y w h true) = -(2 * w * h) := by
  obtain ⟨e1, e2⟩ := rectP_rev x y w h
  rw [e1, twice_turn, ← e2, twice_rev, twice_rect0]
/-! Steps: across and down in turns -/
def stepsP (l : List PT) : List PT := (edgesP l).flatMap fun e => [e.1, ⟨e.2.x, e.1.y⟩]
def stepsW : List PT → List PT
  | a :: b :: t => a :: ⟨b.x, a.y⟩ :: stepsW (b :: t)
  | l => l
theorem stepsW_zip (c : PT) : ∀ (a : PT) (t : List PT), stepsW (a :: (t ++ [c])) = (((a :: t).zip (t ++ [c])).flatMap fun e => [e.1, (⟨e.2.x, e.1.y⟩ : PT)]) ++ [c]
  | a, [] => rfl
  | a, b :: t => by
    show a :: ⟨b.x, a.y⟩ :: stepsW (b :: (t ++ [c])) = _
    rw [stepsW_zip c b t]; rfl
theorem path_steps (f : PT → PT → Int) : ∀ l : List PT, pathS f (stepsW l) = pathS (fun a b => f a ⟨b.x, a.y⟩ + f ⟨b.x, a.y⟩ b) l
  | [] => rfl
  | [a] => rfl
  | [a, b] => by
    show f a ⟨b.x, a.y⟩ + (f ⟨b.x, a.y⟩ b + 0) = f a ⟨b.x, a.y⟩ + f ⟨b.x, a.y⟩ b + 0
    omega
  | a :: b :: c :: t => by
    have ih := path_steps f (b :: c :: t)
    show f a ⟨b.x, a.y⟩ + (f ⟨b.x, a.y⟩ b + pathS f (stepsW (b :: c :: t))) = f a ⟨b.x, a.y⟩ + f ⟨b.x, a.y⟩ b + _
    rw [ih]; omega
theorem cyc_steps (f : PT → PT → Int) (l : List PT) : cycS f (stepsP l) = cycS (fun a b => f a ⟨b.x, a.y⟩ + f ⟨b.x, a.y⟩ b) l := by
  cases l with
  | nil => rfl
  | cons a t =>
    rw [cyc_cons, ← path_steps, stepsW_zip, ← edges_zip]
    show cycS f (stepsP (a :: t)) = pathS f (stepsP (a :: t) ++ [a])
    obtain ⟨m, hm⟩ : ∃ m, stepsP (a :: t) = a :: m := by
      unfold stepsP
      rw [edges_zip]
      cases t with
      | nil => exact ⟨_, rfl⟩
      | cons b t => exact ⟨_, rfl⟩
    rw [hm, cyc_cons]; rfl
theorem steps_len (l : List PT) : (stepsP l).length = 2 * l.length := by
  unfold stepsP
  rw [← edges_len l]
  induction edgesP l with
  | nil => rfl
  | cons e es ih => rw [List.flatMap_cons, List.length_append, ih, List.length_cons]; simp; omega
theorem steps_take {l : List PT} {k : Nat} {e : PT × PT} (h : (edgesP l)[k]? = some e) : ((edgesP l).take (k + 1)).flatMap (fun e : PT × PT => [e.1, (⟨e.2.x, e.1.y⟩ : PT)]) = ((edgesP l).take k).flatMap (fun e : PT × PT => [e.1, (⟨e.2.x, e.1.y⟩ : PT)]) ++ [e.1, ⟨e.2.x, e.1.y⟩] := by
  rw [List.take_add_one, h, List.flatMap_append]; simp
theorem steps_mem {l : List PT} {p : PT} {lo hi : Int} (hl : ∀ q ∈ l, (lo ≤ q.x ∧ q.x ≤ hi) ∧ lo ≤ q.y ∧ q.y ≤ hi) (h : p ∈ stepsP l) : (lo ≤ p.x ∧ p.x ≤ hi) ∧ lo ≤ p.y ∧ p.y ≤ hi := by
  obtain ⟨e, he, hp⟩ := List.mem_flatMap.1 h
  obtain ⟨h1, h2⟩ := edges_mem he
  have k1 := hl _ h1
  have k2 := hl _ h2
  simp only [List.mem_cons, List.not_mem_nil, or_false] at hp
  rcases hp with rfl | rfl
  · exact k1
  · exact ⟨k2.1, k1.2⟩
/-- A sum over places, so far. -/
def sumN (n : Nat) (f : Nat → Int) : Int := sumF f (List.range n)
theorem sumN_succ (n : Nat) (f : Nat → Int) : sumN (n + 1) f = sumN n f + f n := by
  unfold sumN; rw [List.range_succ, sumF_append]; show _ + (f n + 0) = _; omega
theorem sumN_congr {n : Nat} {f g : Nat → Int} (h : ∀ i, i < n → f i = g i) : sumN n f = sumN n g := sumF_congr fun i hi => h i (List.mem_range.1 hi)
theorem sumN_const (n : Nat) (c : Int) : sumN n (fun _ => c) = n * c := by
  induction n with
  | zero => simp [sumN, sumF]
  | succ n ih => rw [sumN_succ, ih]; push_cast; grind
theorem sumN_sumF {α : Type} {f : Nat → α → Int} {l : List α} : ∀ {n : Nat}, sumN n (fun i => sumF (f i) l) = sumF (fun x => sumN n fun i => f i x) l := fun {n} => by
  induction n with
  | zero =>
    show 0 = sumF (fun x => 0) l
    induction l with
    | nil => rfl
    | cons x l ih => show 0 = 0 + _; rw [← ih]; rfl
  | succ n ih =>
    rw [sumN_succ, ih, ← sumF_add]
    exact sumF_congr fun x _ => (sumN_succ n _).symm
theorem sumN_mul (n : Nat) (c : Int) (f : Nat → Int) : sumN n (fun i => c * f i) = c * sumN n f := by
  induction n with
  | zero => simp [sumN, sumF]
  | succ n ih => rw [sumN_succ, sumN_succ, ih, Int.mul_add]
theorem sumN_sub (n : Nat) (f g : Nat → Int) : sumN n (fun i => f i - g i) = sumN n f - sumN n g := sumF_sub
theorem sumN_lt : ∀ (n : Nat) (c : Int), 0 ≤ c → c ≤ n → sumN n (fun i => if (i : Int) < c then 1 else 0) = c
  | 0, c, h1, h2 => by have : c = 0 := by omega
                       subst this; rfl
  | n + 1, c, h1, h2 => by
    rw [sumN_succ]
    by_cases g : c ≤ n
    · rw [sumN_lt n c h1 g, if_neg (by omega)]; omega
    · have e : c = n + 1 := by omega
      rw [if_pos (by omega), sumN_congr (g := fun _ => 1) (fun i hi => if_pos (by omega)), sumN_const]
      omega
theorem sumN_ge (n : Nat) (c : Int) (h1 : 0 ≤ c) (h2 : c ≤ n) : sumN n (fun i => if c ≤ (i : Int) then 1 else 0) = n - c := by
  have e : sumN n (fun i => if c ≤ (i : Int) then 1 else 0) = sumN n (fun i => 1 - if (i : Int) < c then 1 else 0) := sumN_congr fun i _ => by split <;> split <;> omega
  rw [e, sumN_sub, sumN_const, sumN_lt n c h1 h2]; omega
/-- What an edge straight down or up adds in all. -/
theorem edge_sum {n a : PT} (e : n.x = a.x) (hx : 0 ≤ a.x ∧ a.x ≤ 15) (ha : 0 ≤ a.y ∧ a.y ≤ 15) (hn : 0 ≤ n.y ∧ n.y ≤ 15) :
    sumN 16 (fun y => sumN 18 fun x => tr (passE a n (y : Int)) ((x : Int) - 1)) = (17 - a.x) * (n.y - a.y) := by
  have e1 : ∀ y x : Nat, tr (passE a n (y : Int)) ((x : Int) - 1) = ((if (y : Int) < n.y then 1 else 0) - if (y : Int) < a.y then 1 else 0) * (if a.x + 1 ≤ (x : Int) then 1 else 0) := fun y x => by
    rw [trE_eq]
    by_cases g : n.y < a.y
    · rw [if_pos g, trU_up _ _ e.symm]
      by_cases g1 : (y : Int) < n.y
      · rw [if_pos (.inl g1), if_pos g1, if_pos (show (y : Int) < a.y by omega)]; simp
      · by_cases g2 : a.y ≤ (y : Int)
        · rw [if_pos (.inr g2), if_neg g1, if_neg (show ¬ (y : Int) < a.y by omega)]; simp
        · rw [if_neg (show ¬ ((y : Int) < n.y ∨ a.y ≤ (y : Int)) by omega), if_neg g1, if_pos (show (y : Int) < a.y by omega), e]
          by_cases g3 : a.x + 1 ≤ (x : Int)
          · rw [if_neg (by omega), if_pos g3]; rfl
          · rw [if_pos (by omega), if_neg g3]; rfl
    · rw [if_neg g, trU_up _ _ e]
      by_cases g1 : (y : Int) < a.y
      · rw [if_pos (.inl g1), if_pos (show (y : Int) < n.y by omega), if_pos g1]; simp
      · by_cases g2 : n.y ≤ (y : Int)
        · rw [if_pos (.inr g2), if_neg (show ¬ (y : Int) < n.y by omega), if_neg g1]; simp
        · rw [if_neg (show ¬ ((y : Int) < a.y ∨ n.y ≤ (y : Int)) by omega), if_pos (show (y : Int) < n.y by omega), if_neg g1]
          by_cases g3 : a.x + 1 ≤ (x : Int)
          · rw [if_neg (by omega), if_pos g3]; rfl
          · rw [if_pos (by omega), if_neg g3]; rfl
  have e2 : ∀ y : Nat, sumN 18 (fun x => tr (passE a n (y : Int)) ((x : Int) - 1)) = (17 - a.x) * ((if (y : Int) < n.y then 1 else 0) - if (y : Int) < a.y then 1 else 0) := fun y => by
    rw [sumN_congr fun x _ => e1 y x, sumN_mul, sumN_ge 18 (a.x + 1) (by omega) (by omega)]
    generalize ((if (y : Int) < n.y then (1 : Int) else 0) - if (y : Int) < a.y then 1 else 0) = z
    rw [Int.mul_comm]; congr 1; omega
  rw [sumN_congr fun y _ => e2 y, sumN_mul, sumN_sub, sumN_lt 16 n.y (by omega) (by omega), sumN_lt 16 a.y (by omega) (by omega)]
theorem steps_law {l : List PT} (hl : ∀ q ∈ l, (0 ≤ q.x ∧ q.x ≤ 15) ∧ 0 ≤ q.y ∧ q.y ≤ 15) : 2 * sumN 16 (fun y => sumN 18 fun x => turnsF (stepsP l) ((x : Int) - 1) (y : Int)) = -twiceF (stepsP l) := by
  have h1 : sumN 16 (fun y => sumN 18 fun x => turnsF (stepsP l) ((x : Int) - 1) (y : Int)) = cycS (fun a b => (17 - b.x) * (b.y - a.y)) l := by
    have : ∀ y x : Nat, turnsF (stepsP l) ((x : Int) - 1) (y : Int) = cycS (fun a b => tr (passE ⟨b.x, a.y⟩ b (y : Int)) ((x : Int) - 1)) l := fun y x => by
      rw [turns_cyc, cyc_steps]
      refine cyc_congr fun a _ b _ => ?_
      have z : tr (passE a ⟨b.x, a.y⟩ (y : Int)) ((x : Int) - 1) = 0 := by
        rw [trE_eq]; dsimp only; rw [if_neg (by omega), trU_flat (by dsimp only; omega)]
      rw [z]; omega
    rw [sumN_congr fun y _ => sumN_congr fun x _ => this y x]
    unfold cycS
    rw [sumN_congr fun y _ => sumN_sumF, sumN_sumF]
    refine sumF_congr fun e he => ?_
    obtain ⟨k1, k2⟩ := edges_mem he
    have q1 := hl _ k1
    have q2 := hl _ k2
    exact edge_sum (a := ⟨e.2.x, e.1.y⟩) rfl q2.1 q1.2 q2.2
  have h2 : twiceF (stepsP l) = cycS (fun a b => a.x * a.y - b.x * a.y + (b.x * b.y - b.x * a.y)) l := by rw [twice_cyc, cyc_steps]
  have h3 := cyc_zero (fun a => 34 * a.y - a.x * a.y) l
  rw [h1, h2]
  have h4 : 2 * cycS (fun a b => (17 - b.x) * (b.y - a.y)) l + cycS (fun a b => a.x * a.y - b.x * a.y + (b.x * b.y - b.x * a.y)) l = cycS (fun a b => (34 * b.y - b.x * b.y) - (34 * a.y - a.x * a.y)) l := by
    unfold cycS
    induction edgesP l with
    | nil => rfl
    | cons e es ih =>
      show 2 * ((17 - e.2.x) * (e.2.y - e.1.y) + sumF _ es) + (e.1.x * e.1.y - e.2.x * e.1.y + (e.2.x * e.2.y - e.2.x * e.1.y) + sumF _ es) = (34 * e.2.y - e.2.x * e.2.y) - (34 * e.1.y - e.1.x * e.1.y) + sumF _ es
      rw [← ih]
      grind
  omega
end Go.Proofs.Ytkeclfcjmdhcfaa
