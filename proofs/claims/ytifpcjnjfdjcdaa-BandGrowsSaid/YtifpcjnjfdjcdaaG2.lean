/- The model of band.Of: rows of stretches, put together. No condition. -/
import Derived.Test.YtifpcjnjfdjcdaaG1
namespace Go.Proofs.Ytifpcjnjfdjcdaa
open Go Go.VM
set_option linter.unusedVariables false
set_option linter.unusedSimpArgs false
def cross (y : Int) (r : RC) : Bool := decide (r.y ≤ y) && decide (y < r.y + r.h)
def srtX (l : List RC) : List RC := l.mergeSort fun a b => decide (a.x ≤ b.x)
def rowS (all : List RC) (y : Int) : List (Int × Int) := spF (srtX (all.filter (cross y)))
def cntL (l : List RC) : List RC := l.filter fun r => decide r.cnt
def bandsF (l : List RC) : List Bd := (bnd (edF (cntL l)) (rowS (cntL l)) ((edF (cntL l)).length - 1)).reverse
def ofF (l : List RC) : List RC := flatB (bandsF l)
theorem srtX_perm (l : List RC) : (srtX l).Perm l := List.mergeSort_perm _ _
theorem srtX_sorted (l : List RC) : (srtX l).Pairwise fun a b => a.x ≤ b.x := by
  have := List.pairwise_mergeSort (le := fun a b : RC => decide (a.x ≤ b.x)) (fun a b c h1 h2 => by simp at *; omega) (fun a b => by simp; omega) l
  exact this.imp (fun h => by simpa using h)
theorem spF_congr {l m : List RC} (hp : l.Perm m) (hl : l.Pairwise fun a b => a.x ≤ b.x) (hm : m.Pairwise fun a b => a.x ≤ b.x) (hw : ∀ r ∈ l, 0 < r.w) : spF l = spF m := by
  obtain ⟨h1, h2⟩ := spF_spec hw hl
  obtain ⟨h3, h4⟩ := spF_spec (fun r hr => hw r (hp.mem_iff.2 hr)) hm
  refine canS_unique h1 h3 fun x => ?_
  rw [h2, h4]
  constructor
  · rintro ⟨r, hr, k⟩; exact ⟨r, hp.mem_iff.1 hr, k⟩
  · rintro ⟨r, hr, k⟩; exact ⟨r, hp.mem_iff.2 hr, k⟩
theorem rowS_eq {all R : List RC} {y : Int} (hp : R.Perm (all.filter (cross y))) (hs : R.Pairwise fun a b => a.x ≤ b.x) (hw : ∀ r ∈ all, 0 < r.w) : spF R = rowS all y :=
  spF_congr (hp.trans (srtX_perm _).symm) hs (srtX_sorted _) fun r hr => hw r (List.mem_filter.1 (hp.mem_iff.1 hr)).1
theorem rowS_perm {all all' : List RC} {y : Int} (hp : all.Perm all') (hw : ∀ r ∈ all, 0 < r.w) : rowS all y = rowS all' y :=
  rowS_eq ((srtX_perm _).trans (hp.filter _)) (srtX_sorted _) fun r hr => hw r (hp.mem_iff.2 hr)
theorem rowS_spec {all : List RC} {y : Int} (hw : ∀ r ∈ all, 0 < r.w) : CanS (rowS all y) ∧ ∀ x, inS (rowS all y) x ↔ ∃ r ∈ all, r.has x y := by
  have hm : ∀ r, r ∈ srtX (all.filter (cross y)) ↔ r ∈ all ∧ r.y ≤ y ∧ y < r.y + r.h := fun r => by
    rw [(srtX_perm _).mem_iff, List.mem_filter]; simp [cross]
  obtain ⟨h1, h2⟩ := spF_spec (l := srtX (all.filter (cross y))) (fun r hr => hw r ((hm r).1 hr).1) (srtX_sorted _)
  refine ⟨h1, fun x => ?_⟩
  unfold rowS
  rw [h2]
  unfold RC.has
  constructor
  · rintro ⟨r, hr, k⟩; obtain ⟨a, b, c⟩ := (hm r).1 hr; exact ⟨r, a, k.1, k.2, b, c⟩
  · rintro ⟨r, hr, k1, k2, k3, k4⟩; exact ⟨r, (hm r).2 ⟨hr, k3, k4⟩, k1, k2⟩
/-- A stretch's ends are those of rectangles. -/
theorem spGo_ends : ∀ (l : List RC) (f t : Int), ∀ p ∈ spGo f t l, (p.1 = f ∨ ∃ r ∈ l, p.1 = r.x) ∧ (p.2 = t ∨ ∃ r ∈ l, p.2 = r.x + r.w)
  | [], f, t, p, hp => by
    unfold spGo at hp
    rw [List.mem_singleton.1 hp]; exact ⟨.inl rfl, .inl rfl⟩
  | r :: l, f, t, p, hp => by
    unfold spGo at hp
    split at hp
    · obtain ⟨h1, h2⟩ := spGo_ends l _ _ p hp
      refine ⟨?_, ?_⟩
      · rcases h1 with h1 | ⟨q, hq, h1⟩
        · exact .inl h1
        · exact .inr ⟨q, .tail _ hq, h1⟩
      · rcases h2 with h2 | ⟨q, hq, h2⟩
        · by_cases h : t ≤ r.x + r.w
          · exact .inr ⟨r, List.mem_cons_self .., by omega⟩
          · exact .inl (by omega)
        · exact .inr ⟨q, .tail _ hq, h2⟩
    · rcases List.mem_cons.1 hp with rfl | hp
      · exact ⟨.inl rfl, .inl rfl⟩
      · obtain ⟨h1, h2⟩ := spGo_ends l _ _ p hp
        refine ⟨.inr ?_, .inr ?_⟩
        · rcases h1 with h1 | ⟨q, hq, h1⟩
          · exact ⟨r, List.mem_cons_self .., h1⟩
          · exact ⟨q, .tail _ hq, h1⟩
        · rcases h2 with h2 | ⟨q, hq, h2⟩
          · exact ⟨r, List.mem_cons_self .., h2⟩
          · exact ⟨q, .tail _ hq, h2⟩
theorem spF_ends {l : List RC} {p : Int × Int} (hp : p ∈ spF l) : (∃ r ∈ l, p.1 = r.x) ∧ ∃ r ∈ l, p.2 = r.x + r.w := by
  cases l with
  | nil => cases hp
  | cons r l =>
    obtain ⟨h1, h2⟩ := spGo_ends l _ _ p hp
    refine ⟨?_, ?_⟩
    · rcases h1 with h1 | ⟨q, hq, h1⟩
      · exact ⟨r, List.mem_cons_self .., h1⟩
      · exact ⟨q, .tail _ hq, h1⟩
    · rcases h2 with h2 | ⟨q, hq, h2⟩
      · exact ⟨r, List.mem_cons_self .., h2⟩
      · exact ⟨q, .tail _ hq, h2⟩
theorem spGo_len : ∀ (l : List RC) (f t : Int), (spGo f t l).length ≤ l.length + 1
  | [], f, t => by simp [spGo]
  | r :: l, f, t => by
    unfold spGo
    split
    · have := spGo_len l f (max t (r.x + r.w)); simp only [List.length_cons]; omega
    · have := spGo_len l r.x (r.x + r.w); simp only [List.length_cons]; omega
theorem spF_len (l : List RC) : (spF l).length ≤ l.length := by
  cases l with
  | nil => exact Nat.le_refl _
  | cons r l => exact spGo_len l _ _
theorem rowS_len (all : List RC) (y : Int) : (rowS all y).length ≤ all.length := by
  refine Nat.le_trans (spF_len _) ?_
  rw [(srtX_perm _).length_eq]
  exact List.length_filter_le _ _
theorem flatB_snoc (B : List Bd) (b : Bd) : flatB (B ++ [b]) = flatB B ++ b.rects := by simp [flatB]
theorem flatB_rev_cons (B : List Bd) (b : Bd) : flatB (b :: B).reverse = flatB B.reverse ++ b.rects := by rw [List.reverse_cons, flatB_snoc]
/-- Which of the rectangles are the newest band's. -/
def AB (B : List Bd) (ab : Nat) (y : Int) : Prop := (∃ c B', B = c :: B' ∧ ab = (flatB B'.reverse).length) ∨ (ab = (flatB B.reverse).length ∧ ∀ c ∈ B, c.y + c.h < y)
theorem eqF_rects {y h y' h' : Int} : ∀ {s s' : List (Int × Int)}, s ≠ [] → (eqF (fun a b => decide (goesOn a b)) (s.map fun p => (⟨p.1, y, p.2 - p.1, h⟩ : RC)) (s'.map fun p => (⟨p.1, y', p.2 - p.1, h'⟩ : RC)) = true ↔ s = s' ∧ y + h = y')
  | [], _, h => absurd rfl h
  | p :: s, [], _ => by simp [eqF]
  | (a, b) :: s, (c, d) :: s', _ => by
    simp only [List.map_cons, eqF, Bool.and_eq_true, decide_eq_true_eq]
    show (a = c ∧ b - a = d - c ∧ y + h = y') ∧ eqF (fun a b => decide (goesOn a b)) _ _ = true ↔ _
    cases s with
    | nil =>
      cases s' with
      | nil => simp [eqF]; omega
      | cons q s' => simp [eqF]
    | cons q s =>
      rw [eqF_rects (s := q :: s) (by simp)]
      simp only [List.cons.injEq, Prod.mk.injEq]
      constructor
      · rintro ⟨⟨h1, h2, h3⟩, h4, h5⟩; exact ⟨⟨⟨h1, by omega⟩, h4⟩, h3⟩
      · rintro ⟨⟨⟨h1, h2⟩, h4⟩, h3⟩; exact ⟨⟨h1, by omega, h3⟩, h4, h3⟩
def growH (d : Int) (r : RC) : RC := { r with h := r.h + d }
theorem round_ok {B : List Bd} {ab : Nat} {y h : Int} {s : List (Int × Int)} (hB : CanB B.reverse) (hy : ∀ b ∈ B, b.y + b.h ≤ y) (hh : 0 < h) (hab : AB B ab y) :
    ab ≤ (flatB B.reverse).length ∧
    if (decide (0 < ((flatB B.reverse).drop ab).length) && eqF (fun a b => decide (goesOn a b)) ((flatB B.reverse).drop ab) (Bd.rects ⟨y, h, s⟩)) = true then
      flatB (addB B y h s).reverse = (flatB B.reverse).take ab ++ ((flatB B.reverse).drop ab).map (growH h) ∧ AB (addB B y h s) ab (y + h)
    else flatB (addB B y h s).reverse = flatB B.reverse ++ Bd.rects ⟨y, h, s⟩ ∧ AB (addB B y h s) (flatB B.reverse).length (y + h) := by
  have hnil : s = [] → Bd.rects ⟨y, h, s⟩ = [] := fun e => by subst e; rfl
  rcases hab with ⟨c, B', rfl, rfl⟩ | ⟨rfl, hlt⟩
  · have hc : c.ok := by rw [List.reverse_cons] at hB; exact hB.last.1
    rw [flatB_rev_cons, List.drop_left, List.take_left]
    refine ⟨by simp, ?_⟩
    have hpos : 0 < c.rects.length := by
      unfold Bd.rects; rw [List.length_map]; exact List.length_pos_iff.2 hc.ne
    rw [decide_eq_true hpos, Bool.true_and]
    have key := eqF_rects (y := c.y) (h := c.h) (y' := y) (h' := h) (s := c.s) (s' := s) hc.ne
    have key : eqF (fun a b => decide (goesOn a b)) c.rects (Bd.rects ⟨y, h, s⟩) = true ↔ c.s = s ∧ c.y + c.h = y := key
    by_cases hm : c.y + c.h = y ∧ c.s = s
    · rw [if_pos (key.2 ⟨hm.2, hm.1⟩)]
      have e : addB (c :: B') y h s = ⟨c.y, c.h + h, s⟩ :: B' := by
        unfold addB; rw [if_neg (hm.2 ▸ hc.ne)]; simp only [if_pos hm]
      rw [e]
      refine ⟨?_, .inl ⟨_, _, rfl, rfl⟩⟩
      rw [flatB_rev_cons]
      congr 1
      unfold Bd.rects growH
      rw [List.map_map, hm.2]
      rfl
    · rw [if_neg (fun q => hm ⟨(key.1 q).2, (key.1 q).1⟩)]
      by_cases h0 : s = []
      · have e : addB (c :: B') y h s = c :: B' := by unfold addB; rw [if_pos h0]
        rw [e, hnil h0, List.append_nil, flatB_rev_cons]
        exact ⟨rfl, .inr ⟨by rw [flatB_rev_cons], fun b hb => by have := hy b hb; omega⟩⟩
      · have e : addB (c :: B') y h s = ⟨y, h, s⟩ :: c :: B' := by unfold addB; rw [if_neg h0]; simp only [if_neg hm]
        rw [e]
        exact ⟨by rw [flatB_rev_cons, flatB_rev_cons], .inl ⟨_, _, rfl, by rw [flatB_rev_cons]⟩⟩
  · refine ⟨Nat.le_refl _, ?_⟩
    rw [List.drop_of_length_le (Nat.le_refl _)]
    rw [if_neg (by simp)]
    by_cases h0 : s = []
    · have e : addB B y h s = B := by unfold addB; rw [if_pos h0]
      rw [e, hnil h0, List.append_nil]
      exact ⟨rfl, .inr ⟨rfl, fun b hb => by have := hy b hb; omega⟩⟩
    · have e : addB B y h s = ⟨y, h, s⟩ :: B := by
        unfold addB
        rw [if_neg h0]
        cases B with
        | nil => rfl
        | cons c B' =>
          have := hlt c (List.mem_cons_self ..)
          simp only
          rw [if_neg (fun q => by omega)]
      rw [e]
      exact ⟨by rw [flatB_rev_cons], .inl ⟨_, _, rfl, rfl⟩⟩
theorem addB_mem {B : List Bd} {y h : Int} {s : List (Int × Int)} {b : Bd} (hb : b ∈ addB B y h s) : (b.y = y ∧ b.s = s) ∨ ∃ c ∈ B, b.y = c.y ∧ b.s = c.s := by
  unfold addB at hb
  split at hb
  · exact .inr ⟨b, hb, rfl, rfl⟩
  · cases B with
    | nil => rw [List.mem_singleton.1 hb]; exact .inl ⟨rfl, rfl⟩
    | cons c B =>
      simp only at hb
      split at hb
      · rename_i hm
        rcases List.mem_cons.1 hb with rfl | hb
        · exact .inr ⟨c, List.mem_cons_self .., rfl, hm.2.symm⟩
        · exact .inr ⟨b, .tail _ hb, rfl, rfl⟩
      · rcases List.mem_cons.1 hb with rfl | hb
        · exact .inl ⟨rfl, rfl⟩
        · exact .inr ⟨b, hb, rfl, rfl⟩
theorem getD_mem {l : List Int} {i : Nat} (h : i < l.length) : l.getD i 0 ∈ l := by
  rw [List.getD_eq_getElem?_getD, List.getElem?_eq_getElem h]; exact List.getElem_mem _
theorem bnd_mem {ys : List Int} {f : Int → List (Int × Int)} : ∀ i, i < ys.length → ∀ b ∈ bnd ys f i, b.y ∈ ys ∧ ∃ y ∈ ys, b.s = f y
  | 0, _, b, hb => by cases hb
  | i + 1, hi, b, hb => by
    rcases addB_mem hb with ⟨h1, h2⟩ | ⟨c, hc, h1, h2⟩
    · exact ⟨h1 ▸ getD_mem (by omega), _, getD_mem (by omega), h2⟩
    · rw [h1, h2]; exact bnd_mem i (by omega) c hc
theorem addB_len {B : List Bd} {y h : Int} {s : List (Int × Int)} : (flatB (addB B y h s).reverse).length ≤ (flatB B.reverse).length + s.length := by
  have hl : ∀ b : Bd, b.rects.length = b.s.length := fun b => by simp [Bd.rects]
  unfold addB
  split
  · omega
  · cases B with
    | nil => show (flatB [_]).length ≤ _; simp [flatB, hl]
    | cons c B =>
      simp only
      split
      · rename_i hm
        rw [flatB_rev_cons, flatB_rev_cons, List.length_append, List.length_append, hl, hl, hm.2]; simp only; omega
      · rw [flatB_rev_cons, List.length_append, hl]; exact Nat.le_refl _
theorem bnd_len {ys : List Int} {f : Int → List (Int × Int)} {N : Nat} (hN : ∀ y, (f y).length ≤ N) : ∀ i, (flatB (bnd ys f i).reverse).length ≤ i * N
  | 0 => by simp [bnd, flatB]
  | i + 1 => by
    have h1 := bnd_len (ys := ys) hN i
    have h2 := addB_len (B := bnd ys f i) (y := ys.getD i 0) (h := ys.getD (i + 1) 0 - ys.getD i 0) (s := f (ys.getD i 0))
    have h3 := hN (ys.getD i 0)
    rw [Nat.succ_mul]
    unfold bnd
    omega
/-- Numbers of rectangles that count. -/
def InM (n : Int) : Prop := -1048576 ≤ n ∧ n ≤ 1048576
theorem flatB_cnt {B : List Bd} (hB : ∀ b ∈ B, b.ok ∧ -1048576 ≤ b.y ∧ b.y + b.h ≤ 1048576 ∧ ∀ p ∈ b.s, InM p.1 ∧ InM p.2) : ∀ r ∈ flatB B, r.cnt := by
  intro r hr
  unfold flatB at hr
  obtain ⟨b, hb, hr⟩ := List.mem_flatMap.1 hr
  obtain ⟨h1, h2, h3, h4⟩ := hB b hb
  unfold Bd.rects at hr
  obtain ⟨p, hp, rfl⟩ := List.mem_map.1 hr
  obtain ⟨⟨a1, a2⟩, ⟨a3, a4⟩⟩ := h4 p hp
  have := h1.h
  have := h1.s.pos p hp
  exact ⟨⟨by simp only; omega, by simp only; omega, by simp only; omega⟩, ⟨by simp only; omega, by simp only; omega, by simp only; omega⟩⟩
theorem canB_ok : ∀ {B : List Bd}, CanB B → ∀ b ∈ B, b.ok
  | [], _, b, hb => by cases hb
  | c :: B, h, b, hb => by
    rcases List.mem_cons.1 hb with rfl | hb
    · exact h.head
    · exact canB_ok h.tail b hb
theorem rowS_inM {all : List RC} (hc : ∀ r ∈ all, r.cnt) (y : Int) : ∀ p ∈ rowS all y, InM p.1 ∧ InM p.2 := by
  intro p hp
  unfold rowS at hp
  have hm : ∀ r, r ∈ srtX (all.filter (cross y)) → r ∈ all := fun r hr => by
    rw [(srtX_perm _).mem_iff, List.mem_filter] at hr; exact hr.1
  obtain ⟨⟨r, hr, h1⟩, ⟨q, hq, h2⟩⟩ := spF_ends hp
  obtain ⟨⟨a1, a2, a3⟩, _⟩ := hc r (hm r hr)
  obtain ⟨⟨b1, b2, b3⟩, _⟩ := hc q (hm q hq)
  rw [h1, h2]
  exact ⟨⟨a1, by omega⟩, ⟨by omega, b3⟩⟩
theorem edF_inM {all : List RC} (hc : ∀ r ∈ all, r.cnt) : ∀ y ∈ edF all, InM y := by
  intro y hy
  obtain ⟨r, hr, h⟩ := mem_edF.1 hy
  obtain ⟨_, ⟨a1, a2, a3⟩⟩ := hc r hr
  unfold InM
  rcases h with h | h <;> omega
theorem up_getD {ys : List Int} (hu : Up_ ys) {i : Nat} (hi : i + 1 < ys.length) : ys.getD i 0 < ys.getD (i + 1) 0 := by
  rw [List.getD_eq_getElem?_getD, List.getD_eq_getElem?_getD, List.getElem?_eq_getElem (by omega), List.getElem?_eq_getElem hi]
  exact (List.pairwise_iff_getElem.1 hu) i (i + 1) (by omega) hi (by omega)
/-- All that a walk wants to know of the bands so far. -/
theorem bnd_all {all : List RC} (hc : ∀ r ∈ all, r.cnt) (i : Nat) (hi : i < (edF all).length) :
    CanB (bnd (edF all) (rowS all) i).reverse ∧ (∀ b ∈ bnd (edF all) (rowS all) i, b.y + b.h ≤ (edF all).getD i 0) ∧ ∀ r ∈ flatB (bnd (edF all) (rowS all) i).reverse, r.cnt := by
  have hw : ∀ r ∈ all, 0 < r.w := fun r hr => (hc r hr).1.2.1
  obtain ⟨h1, h2, _⟩ := bnd_spec (ys := edF all) (f := rowS all) (up_edF all) (fun y _ => (rowS_spec hw).1) i hi
  refine ⟨h1, h2, flatB_cnt fun b hb => ?_⟩
  rw [List.mem_reverse] at hb
  obtain ⟨g1, y, g2, g3⟩ := bnd_mem i hi b hb
  refine ⟨canB_ok h1 b (by rwa [List.mem_reverse]), (edF_inM hc _ g1).1, ?_, ?_⟩
  · have := h2 b hb
    have := (edF_inM hc _ (getD_mem hi)).2
    omega
  · rw [g3]; exact rowS_inM hc y
end Go.Proofs.Ytifpcjnjfdjcdaa
