/- shape.Grow as a whole. No condition. -/
import Derived.Test.YtdknjjgmmmmfjaaE14
namespace Go.Proofs.Ytdknjjgmmmmfjaa
open Go Go.VM
attribute [local irreducible] PurV Pur Step RL W D ACalls Then InBlock Fini
set_option linter.unusedVariables false
set_option linter.unusedSimpArgs false
set_option maxHeartbeats 20000000
theorem Bx.box {K : Int} {m : Nat} {A : List RC} (h : Bx K m A) (hne : A ≠ []) : (-K ≤ (boxF A).x ∧ 1 ≤ (boxF A).w ∧ (boxF A).x + (boxF A).w ≤ m - K) ∧ -K ≤ (boxF A).y ∧ 1 ≤ (boxF A).h ∧ (boxF A).y + (boxF A).h ≤ m - K := by
  obtain ⟨⟨y1, t1⟩, ⟨y2, t2⟩, ⟨x3, t3⟩, x4, t4⟩ := boxF_tight h.can hne
  have b1 := h.has t1; have b2 := h.has t2; have b3 := h.has t3; have b4 := h.has t4
  have i1 := boxF_has h.can.cnt h.can.fol t1
  have i3 := boxF_has h.can.cnt h.can.fol t3
  unfold InM at i1 i3
  omega
def growX (n : Int) (A : List RC) : List RC := if n ≤ 0 then lowF (-n) (thinF (-n) A) else growF n A
theorem can_growX (n : Int) (A : List RC) : Can (growX n A) := by
  unfold growX; split
  · exact can_low _ _
  · exact can_grow _ _
theorem has_less {A : List RC} (hA : Can A) (k : Nat) (x y : Int) : hasR (growX (-(k : Int)) A) x y = true ↔ ∀ b : Int, -k ≤ b → b ≤ k → ∀ a : Int, -k ≤ a → a ≤ k → hasR A (x + a) (y + b) = true := by
  unfold growX
  rw [if_pos (by omega), Int.neg_neg, has_low (can_thin _ _)]
  constructor <;> (intro q b b1 b2; have := q b b1 b2; rw [has_thin hA] at *; exact this)
theorem wi_fit {K : Int} {m : Nat} {A : List RC} {n : Int} (h : Bx K m A) (hK : 0 ≤ K ∧ K ≤ 1000) (hm : m ≤ 1000) (hn : 0 < n ∧ n ≤ 1000) : ∀ r ∈ A, (wiR n r).cnt := fun r hr => by
  have := h.inb r hr
  have c := h.can.cnt r hr
  unfold wiR RC.cnt fitP at *
  dsimp only
  omega
theorem has_more {K : Int} {m : Nat} {A : List RC} (h : Bx K m A) (hK : 0 ≤ K ∧ K ≤ 1000) (hm : m ≤ 1000) (k : Nat) (hk : 0 < k ∧ k ≤ 1000) (x y : Int) : hasR (growX (k : Int) A) x y = true ↔ ∃ a b : Int, (-k ≤ a ∧ a ≤ k) ∧ (-k ≤ b ∧ b ≤ k) ∧ hasR A (x + a) (y + b) = true := by
  unfold growX
  rw [if_neg (by omega)]
  exact has_grow (wi_fit h hK hm (by omega)) h.can.cnt x y
theorem Bx.growX {K : Int} {m : Nat} {A : List RC} (h : Bx K m A) (hK : 0 ≤ K ∧ K ≤ 1000) (hm : m ≤ 1000) (k : Nat) (hk : k ≤ 1000) : Bx (K + k) (m + 2 * k) (Proofs.Ytdknjjgmmmmfjaa.growX (k : Int) A) ∧ Bx K m (Proofs.Ytdknjjgmmmmfjaa.growX (-(k : Int)) A) := by
  constructor
  · refine .of_has (can_growX _ _) fun x y e => ?_
    rcases Nat.eq_zero_or_pos k with rfl | hp
    · have e2 := (has_less h.can 0 x y).1 (by simpa using e) 0 (by omega) (by omega) 0 (by omega) (by omega)
      have := h.has e2
      omega
    · obtain ⟨a, b, a1, b1, e2⟩ := (has_more h hK hm k ⟨hp, hk⟩ x y).1 e
      have := h.has e2
      push_cast
      omega
  · refine .of_has (can_growX _ _) fun x y e => ?_
    have e2 := (has_less h.can k x y).1 e 0 (by omega) (by omega) 0 (by omega) (by omega)
    have := h.has e2
    omega
theorem grow_c {K : Int} {m : Nat} (A : List RC) (n : Int) (h : Heap) (bA : Bx K m A) (hK : 0 ≤ K ∧ K ≤ 1000) (hm : m ≤ 100) (hn : -128 ≤ n ∧ n ≤ 128) : ACalls Try.prog 12 [regE A, .val (.int .i64 n)] h (fun r h' => r = .tup [regE (growX n A), .val (.int .i64 0)] ∧ h' = h) := by
  have len : ∀ {B : List RC}, Bx K m B → B.length ≤ 10000 := fun b => Nat.le_trans b.len (Nat.mul_le_mul hm hm)
  unfold growX
  rcases (by omega : n ≤ 0 ∨ 0 < n) with g | g
  · rw [if_pos g]
    obtain ⟨k, hk⟩ : ∃ k : Nat, -n = (k : Int) := ⟨(-n).toNat, by omega⟩
    have q := grow_less A n h ⟨hn.1, g⟩ bA.can (len bA)
    rw [hk] at q ⊢
    exact q (len (bA.thin k)) (len (bA.thin k).turn) (len ((bA.thin k).turn.thin k))
  · rw [if_neg (by omega)]
    refine grow_more A n h ⟨g, hn.2⟩ bA.can (len bA) ?_
    by_cases hne : A = []
    · subst hne; unfold wiR boxF RC.cnt fitP; dsimp only; omega
    · have := bA.box hne
      unfold wiR RC.cnt fitP
      dsimp only
      omega
theorem near_growX {K : Int} {m : Nat} {A : List RC} {p : Int → Int → Bool} (bA : Bx K m A) (hK : 0 ≤ K ∧ K ≤ 1000) (hm : m ≤ 1000) (n : Int) (k : Nat) (hk : max n (-n) = (k : Int)) (hk2 : k ≤ 1000) (hp : hasR A = p) (x y : Int) : hasR (growX n A) x y = decide (0 ≤ n) ↔ nearN p (decide (0 ≤ n)) x y k := by
  subst hp
  unfold nearN
  rcases (by omega : n < 0 ∨ n = 0 ∨ 0 < n) with g | g | g
  · have en : n = -(k : Int) := by omega
    rw [decide_eq_false (by omega : ¬ 0 ≤ n)]
    have e := has_less bA.can k x y
    rw [← en] at e
    constructor
    · intro hf
      by_cases c : ∃ i j : Nat, i < 2 * k + 1 ∧ j < 2 * k + 1 ∧ hasR A (x - k + j) (y - k + i) = false
      · exact c
      · exfalso
        have : hasR (growX n A) x y = true := e.2 fun b b1 b2 a a1 a2 => by
          cases hv : hasR A (x + a) (y + b) with
          | true => rfl
          | false => exact absurd ⟨(b + k).toNat, (a + k).toNat, by omega, by omega, by rw [show x - (k : Int) + ((a + k).toNat : Nat) = x + a by omega, show y - (k : Int) + ((b + k).toNat : Nat) = y + b by omega]; exact hv⟩ c
        rw [hf] at this; cases this
    · rintro ⟨i, j, h1, h2, h3⟩
      cases hv : hasR (growX n A) x y with
      | false => rfl
      | true =>
        have := e.1 hv ((i : Int) - k) (by omega) (by omega) ((j : Int) - k) (by omega) (by omega)
        rw [show x + ((j : Int) - k) = x - k + j by omega, show y + ((i : Int) - k) = y - k + i by omega, h3] at this
        cases this
  · have ek : k = 0 := by omega
    subst ek g
    rw [decide_eq_true (by omega : (0 : Int) ≤ 0)]
    have e := has_less bA.can 0 x y
    rw [show (-((0 : Nat) : Int)) = 0 from rfl] at e
    rw [e]
    constructor
    · intro q
      exact ⟨0, 0, by omega, by omega, by have := q 0 (by omega) (by omega) 0 (by omega) (by omega); simpa using this⟩
    · rintro ⟨i, j, h1, h2, h3⟩ b b1 b2 a a1 a2
      rw [show x - ((0 : Nat) : Int) + j = x + a by omega, show y - ((0 : Nat) : Int) + i = y + b by omega] at h3
      exact h3
  · have en : n = (k : Int) := by omega
    rw [decide_eq_true (by omega : 0 ≤ n)]
    have e := has_more bA hK hm k (by omega) x y
    rw [← en] at e
    rw [e]
    constructor
    · rintro ⟨a, b, ⟨a1, a2⟩, ⟨b1, b2⟩, h3⟩
      exact ⟨(b + k).toNat, (a + k).toNat, by omega, by omega, by rw [show x - (k : Int) + ((a + k).toNat : Nat) = x + a by omega, show y - (k : Int) + ((b + k).toNat : Nat) = y + b by omega]; exact h3⟩
    · rintro ⟨i, j, h1, h2, h3⟩
      exact ⟨(j : Int) - k, (i : Int) - k, by omega, by omega, by rw [show x + ((j : Int) - k) = x - k + j by omega, show y + ((i : Int) - k) = y - k + i by omega]; exact h3⟩
theorem open_close {K : Int} {m : Nat} {A : List RC} (h : Bx K m A) (hK : 0 ≤ K ∧ K ≤ 500) (hm : m ≤ 500) (k : Nat) (hk : k ≤ 100) (x y : Int) : (hasR A x y = true → hasR (growX (-(k : Int)) (growX (k : Int) A)) x y = true) ∧ (hasR (growX (k : Int) (growX (-(k : Int)) A)) x y = true → hasR A x y = true) := by
  obtain ⟨b1, b2⟩ := h.growX ⟨hK.1, by omega⟩ (by omega) k (by omega)
  rcases Nat.eq_zero_or_pos k with rfl | hp
  · have key : ∀ {B : List RC}, Can B → ∀ x y, hasR (growX ((0 : Nat) : Int) B) x y = hasR B x y := fun {B} cB x y => by
      have := has_less cB 0 x y
      rw [show (-((0 : Nat) : Int)) = ((0 : Nat) : Int) from rfl] at this
      rw [Bool.eq_iff_iff, this]
      constructor
      · intro q; have := q 0 (by omega) (by omega) 0 (by omega) (by omega); simpa using this
      · intro q b b1 b2 a a1 a2
        rw [show x + a = x by omega, show y + b = y by omega]; exact q
    rw [show (-((0 : Nat) : Int)) = ((0 : Nat) : Int) from rfl, key (can_growX _ _), key h.can]
    exact ⟨id, id⟩
  · constructor
    · intro q
      rw [has_less (can_growX _ _)]
      intro b c1 c2 a a1 a2
      rw [has_more h ⟨hK.1, by omega⟩ (by omega) k (by omega)]
      exact ⟨-a, -b, by omega, by omega, by rw [show x + a + -a = x by omega, show y + b + -b = y by omega]; exact q⟩
    · intro q
      obtain ⟨a, b, ⟨a1, a2⟩, ⟨c1, c2⟩, q2⟩ := (has_more b2 ⟨hK.1, by omega⟩ (by omega) k (by omega) x y).1 q
      have := (has_less h.can k (x + a) (y + b)).1 q2 (-b) (by omega) (by omega) (-a) (by omega) (by omega)
      rw [show x + a + -a = x by omega, show y + b + -b = y by omega] at this
      exact this
end Go.Proofs.Ytdknjjgmmmmfjaa
