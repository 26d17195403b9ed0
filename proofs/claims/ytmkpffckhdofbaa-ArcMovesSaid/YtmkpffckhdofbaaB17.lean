/- The reference's Rects and Box. No condition. -/
import Derived.Test.YtmkpffckhdofbaaB16
namespace Go.Proofs.Ytmkpffckhdofbaa
open Go Go.VM
attribute [local irreducible] PurV Pur Step RL W D ACalls Then InBlock Fini
set_option linter.unusedVariables false
set_option linter.unusedSimpArgs false
set_option maxHeartbeats 20000000
theorem mem_xsF : ∀ {l : List RC} {x : Int}, x ∈ xsF l ↔ ∃ r ∈ l, r.cnt ∧ (x = r.x ∨ x = r.x + r.w)
  | [], x => by simp [xsF]
  | r :: l, x => by
    unfold xsF
    by_cases h : r.cnt
    · rw [if_pos h, mem_insS, mem_insS, mem_xsF]
      constructor
      · rintro (e | e | ⟨q, hq, k⟩)
        · exact ⟨r, List.mem_cons_self .., h, .inr e⟩
        · exact ⟨r, List.mem_cons_self .., h, .inl e⟩
        · exact ⟨q, .tail _ hq, k⟩
      · rintro ⟨q, hq, k1, k2⟩
        rcases List.mem_cons.1 hq with rfl | hq
        · exact k2.elim (fun e => .inr (.inl e)) .inl
        · exact .inr (.inr ⟨q, hq, k1, k2⟩)
    · rw [if_neg h, mem_xsF]
      constructor
      · rintro ⟨q, hq, k⟩; exact ⟨q, .tail _ hq, k⟩
      · rintro ⟨q, hq, k1, k2⟩
        rcases List.mem_cons.1 hq with rfl | hq
        · exact absurd k1 h
        · exact ⟨q, hq, k1, k2⟩
theorem mem_ysF : ∀ {l : List RC} {x : Int}, x ∈ ysF l ↔ ∃ r ∈ l, r.cnt ∧ (x = r.y ∨ x = r.y + r.h)
  | [], x => by simp [ysF]
  | r :: l, x => by
    unfold ysF
    by_cases h : r.cnt
    · rw [if_pos h, mem_insS, mem_insS, mem_ysF]
      constructor
      · rintro (e | e | ⟨q, hq, k⟩)
        · exact ⟨r, List.mem_cons_self .., h, .inr e⟩
        · exact ⟨r, List.mem_cons_self .., h, .inl e⟩
        · exact ⟨q, .tail _ hq, k⟩
      · rintro ⟨q, hq, k1, k2⟩
        rcases List.mem_cons.1 hq with rfl | hq
        · exact k2.elim (fun e => .inr (.inl e)) .inl
        · exact .inr (.inr ⟨q, hq, k1, k2⟩)
    · rw [if_neg h, mem_ysF]
      constructor
      · rintro ⟨q, hq, k⟩; exact ⟨q, .tail _ hq, k⟩
      · rintro ⟨q, hq, k1, k2⟩
        rcases List.mem_cons.1 hq with rfl | hq
        · exact absurd k1 h
        · exact ⟨q, hq, k1, k2⟩
theorem xsF_inM (l : List RC) : ∀ x ∈ xsF l, InM x := by
  intro x hx
  obtain ⟨r, hr, ⟨⟨a1, a2, a3⟩, _⟩, h⟩ := mem_xsF.1 hx
  unfold InM
  rcases h with h | h <;> omega
theorem ysF_inM (l : List RC) : ∀ x ∈ ysF l, InM x := by
  intro x hx
  obtain ⟨r, hr, ⟨_, ⟨a1, a2, a3⟩⟩, h⟩ := mem_ysF.1 hx
  unfold InM
  rcases h with h | h <;> omega
def rowR (l : List RC) (y : Int) : List (Int × Int) := cellS l (xsF l.reverse) y ((xsF l.reverse).length - 1)
def rectsF (l : List RC) : List RC := flatB (bnd (ysF l.reverse) (rowR l) ((ysF l.reverse).length - 1)).reverse
theorem rowR_can (l : List RC) (y : Int) : CanS (rowR l y) := by
  unfold rowR
  cases h : xsF l.reverse with
  | nil => exact ⟨fun p hp => (by cases hp), .nil⟩
  | cons a xs => exact (cellS_spec (h ▸ up_xsF l.reverse) _ (by simp)).1
theorem rowR_inM (l : List RC) (y : Int) : ∀ p ∈ rowR l y, InM p.1 ∧ InM p.2 := by
  unfold rowR
  intro p hp
  have hpos : (xsF l.reverse).length ≠ 0 := fun e => by
    rw [List.eq_nil_of_length_eq_zero e] at hp; cases hp
  obtain ⟨_, h2, _⟩ := cellS_spec (l := l) (y := y) (up_xsF l.reverse) ((xsF l.reverse).length - 1) (by omega)
  exact ⟨xsF_inM _ _ (h2 p hp).1, xsF_inM _ _ (h2 p hp).2.1⟩
theorem rowR_len (l : List RC) (y : Int) : (rowR l y).length ≤ 2 * l.length := by
  unfold rowR
  have h1 := cellS_len l (xsF l.reverse) y ((xsF l.reverse).length - 1)
  have h2 := len_xsF l.reverse
  rw [List.length_reverse] at h2
  omega
/-- The row before, where it is not empty, is the newest band's. -/
def LI (B : List Bd) (L : List RC) (y : Int) : Prop := (L = [] ∧ ∀ c ∈ B, c.y + c.h < y) ∨ ∃ c B', B = c :: B' ∧ c.y + c.h = y ∧ alikeP L c.rects
theorem rects_alike {y h y' h' : Int} {s s' : List (Int × Int)} : alikeP (Bd.rects ⟨y, h, s⟩) (Bd.rects ⟨y', h', s'⟩) ↔ s = s' := by
  unfold alikeP Bd.rects
  rw [List.map_map, List.map_map]
  constructor
  · intro e
    refine (List.map_inj_right (f := fun p : Int × Int => (p.1, p.2 - p.1)) fun p q hpq => ?_).1 e
    obtain ⟨a, b⟩ := p
    obtain ⟨c, d⟩ := q
    simp only [Prod.mk.injEq] at hpq ⊢
    omega
  · intro e; rw [e]; rfl
theorem rround {B : List Bd} {L : List RC} {y h : Int} {s : List (Int × Int)} (hB : CanB B.reverse) (hy : ∀ b ∈ B, b.y + b.h ≤ y) (hh : 0 < h) (hL : LI B L y) :
    ((L = [] ∨ ¬ alikeP (Bd.rects ⟨y, h, s⟩) L) → flatB (addB B y h s).reverse = flatB B.reverse ++ Bd.rects ⟨y, h, s⟩ ∧ LI (addB B y h s) (Bd.rects ⟨y, h, s⟩) (y + h)) ∧
    (L ≠ [] → alikeP (Bd.rects ⟨y, h, s⟩) L → L.length ≤ (flatB B.reverse).length ∧ flatB (addB B y h s).reverse = (flatB B.reverse).take ((flatB B.reverse).length - L.length) ++ ((flatB B.reverse).drop ((flatB B.reverse).length - L.length)).map (growH h) ∧ LI (addB B y h s) L (y + h)) := by
  have hempty : s = [] → addB B y h s = B ∧ Bd.rects ⟨y, h, s⟩ = [] := fun e => by subst e; exact ⟨by unfold addB; rw [if_pos rfl], rfl⟩
  have hfar : ∀ b ∈ B, b.y + b.h < y + h := fun b hb => by have := hy b hb; omega
  rcases hL with ⟨rfl, hlt⟩ | ⟨c, B', rfl, hc, hal⟩
  · refine ⟨fun _ => ?_, fun h => absurd rfl h⟩
    by_cases h0 : s = []
    · rw [(hempty h0).1, (hempty h0).2, List.append_nil]
      exact ⟨rfl, .inl ⟨rfl, hfar⟩⟩
    · have e : addB B y h s = ⟨y, h, s⟩ :: B := by
        unfold addB
        rw [if_neg h0]
        cases B with
        | nil => rfl
        | cons c B' =>
          have := hlt c (List.mem_cons_self ..)
          simp only
          rw [if_neg (fun q => by omega)]
      rw [e]
      exact ⟨by rw [flatB_rev_cons], .inr ⟨_, _, rfl, rfl, rfl⟩⟩
  · have hok : c.ok := by rw [List.reverse_cons] at hB; exact hB.last.1
    have hll : L.length = c.rects.length := by have := congrArg List.length hal; simpa using this
    have hcr : c.rects.length = c.s.length := by simp [Bd.rects]
    have hiff : alikeP (Bd.rects ⟨y, h, s⟩) L ↔ s = c.s := by
      have e1 : c.rects = Bd.rects ⟨c.y, c.h, c.s⟩ := rfl
      rw [← rects_alike (y := y) (h := h) (y' := c.y) (h' := c.h), ← e1]
      unfold alikeP at hal ⊢
      rw [hal]
    refine ⟨fun hd => ?_, fun _ ha => ?_⟩
    · have hs : s ≠ c.s := by
        rcases hd with hd | hd
        · exfalso
          have := List.length_pos_iff.2 hok.ne
          rw [hd] at hll; simp at hll; omega
        · exact fun e => hd (hiff.2 e)
      by_cases h0 : s = []
      · rw [(hempty h0).1, (hempty h0).2, List.append_nil]
        exact ⟨rfl, .inl ⟨rfl, hfar⟩⟩
      · have e : addB (c :: B') y h s = ⟨y, h, s⟩ :: c :: B' := by
          unfold addB; rw [if_neg h0]; simp only
          rw [if_neg (fun q => hs q.2.symm)]
        rw [e]
        exact ⟨by rw [flatB_rev_cons], .inr ⟨_, _, rfl, rfl, rfl⟩⟩
    · have hs := hiff.1 ha
      subst hs
      have e : addB (c :: B') y h c.s = ⟨c.y, c.h + h, c.s⟩ :: B' := by
        unfold addB; rw [if_neg hok.ne]; simp only
        rw [if_pos (by simp [hc])]
      rw [e, flatB_rev_cons, flatB_rev_cons, List.length_append, ← hll, Nat.add_sub_cancel, List.take_left, List.drop_left]
      refine ⟨by omega, ?_, .inr ⟨_, _, rfl, by simp only; omega, ?_⟩⟩
      · congr 1
        unfold Bd.rects growH
        rw [List.map_map]
        rfl
      · unfold alikeP at hal ⊢
        rw [hal]
        unfold Bd.rects
        rw [List.map_map, List.map_map]
        rfl
def rboxF (l : List RC) : RC := match xsF l.reverse, ysF l.reverse with
  | a :: xs, b :: ys => ⟨a, b, (a :: xs).getLastD 0 - a, (b :: ys).getLastD 0 - b⟩
  | _, _ => ⟨0, 0, 0, 0⟩
theorem xsF_nil {l : List RC} : xsF l = [] ↔ ∀ r ∈ l, ¬ r.cnt := by
  rw [List.eq_nil_iff_forall_not_mem]
  constructor
  · intro h r hr hc; exact h r.x (mem_xsF.2 ⟨r, hr, hc, .inl rfl⟩)
  · intro h x hx
    obtain ⟨r, hr, hc, _⟩ := mem_xsF.1 hx
    exact h r hr hc
theorem ysF_nil {l : List RC} : ysF l = [] ↔ ∀ r ∈ l, ¬ r.cnt := by
  rw [List.eq_nil_iff_forall_not_mem]
  constructor
  · intro h r hr hc; exact h r.y (mem_ysF.2 ⟨r, hr, hc, .inl rfl⟩)
  · intro h x hx
    obtain ⟨r, hr, hc, _⟩ := mem_ysF.1 hx
    exact h r hr hc
end Go.Proofs.Ytmkpffckhdofbaa
