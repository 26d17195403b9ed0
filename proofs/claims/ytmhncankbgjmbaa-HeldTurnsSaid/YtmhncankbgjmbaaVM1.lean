/- Values by what they read as, worlds by what is owned: the words of the walk. No condition. -/
import Derived.WalkKit
import Derived.WalkSpells
import Derived.Below
import Derived.Lib.Hide
import Derived.OrdersHeld
import Derived.Laws.CopyRow
import Derived.Laws.AppendOwn
import Derived.Laws.Tables
import Derived.KernelRfl
namespace Go.VM
open Go
set_option linter.unusedVariables false
set_option linter.unusedSimpArgs false

/-! ### Abstract values -/
abbrev Ghost := Nat → Option Obj
def Gle (m m' : Ghost) : Prop := ∀ b o, m b = some o → m' b = some o
theorem Gle.refl (m : Ghost) : Gle m m := fun _ _ h => h
theorem Gle.trans {a b c : Ghost} (h : Gle a b) (k : Gle b c) : Gle a c := fun x o e => k x o (h x o e)

/-- A value as it is; a struct by its cells; a tuple; an immutable slice by its elements (k cells each); a place in one; a function value; an immutable map;
a piece (n elements from lo on) of the owned slice v; a place in it; a slice with no capacity. -/
inductive AV where
  | val (v : Value)
  | agg (l : List AV)
  | tup (l : List AV)
  | ro (k : Nat) (l : List AV)
  | rp (k : Nat) (l : List AV) (i off : Nat)
  | clo (f : Fn) (l : List AV)
  | mro (ks : List Value) (l : List AV)
  | vw (v : Value) (k lo n : Nat)
  | ep (v : Value) (k i off : Nat)
  | emp

def Win (m : Ghost) (A : Option Addr) (N : Nat) (R : List Value → Prop) : Prop :=
  ∃ b off cs e fr, A = some ⟨b, off, none⟩ ∧ m b = some (.cells cs e fr) ∧ off + N ≤ cs.size ∧ R ((cs.toList.drop off).take N) ∧ ∀ y ∈ (cs.toList.drop off).take N, y.oneCell' = true

/-- A map's entries, in an order of ours. -/
def MapOk (es : List MapEntry) (clk : Nat) (es' : List MapEntry) : Prop := es'.Perm es ∧ (∀ e ∈ es, e.born < clk) ∧ (es.map (·.born)).Nodup ∧ (es.map (·.key)).Nodup
mutual
def Rel (m : Ghost) : AV → Value → Prop
  | .val u, v => v = u ∧ u.oneCell' = true
  | .agg l, v => ∃ cs, v = .agg cs ∧ RelL m l cs.toList
  | .tup l, v => ∃ cs, v = .tuple cs ∧ RelL m l cs.toList
  | .ro k l, v => ∃ A c, v = .slice A l.length c ∧ l.length ≤ c ∧ c ≤ maxLen ∧ (A = none → c = 0) ∧ (l ≠ [] → Win m A (l.length * k) (fun ys => RelE m k l ys))
  | .rp k l i off, v => ∃ b o, v = .pointer (some ⟨b, o + (i * k + off), none⟩) ∧ i < l.length ∧ Win m (some ⟨b, o, none⟩) (l.length * k) (fun ys => RelE m k l ys)
  | .clo f l, v => ∃ cs, v = .func f #[] cs ∧ RelL m l cs.toList
  | .mro ks l, v => ∃ r, v = .map r ∧ ((r = none ∧ ks = [] ∧ l = []) ∨ ∃ g es clk es', r = some g ∧ m g = some (.map es clk) ∧ MapOk es.toList clk es' ∧ es'.map (·.key) = ks ∧ RelL m l (es'.map (·.val)))
  | .vw v k lo n, u => ∃ A c, u = .slice A n c ∧ n ≤ c ∧ c ≤ maxLen ∧ (A = none → c = 0) ∧ (0 < n → ∃ g N cap, v = .slice (some ⟨g, 0, none⟩) N cap ∧ A = some ⟨g, lo * k, none⟩ ∧ lo + n ≤ N)
  | .ep v k i off, u => ∃ g N cap, u = .pointer (some ⟨g, i * k + off, none⟩) ∧ v = .slice (some ⟨g, 0, none⟩) N cap ∧ i < N
  | .emp, u => ∃ A, u = .slice A 0 0
def RelL (m : Ghost) : List AV → List Value → Prop
  | [], cs => cs = []
  | x :: xs, cs => ∃ c r, cs = c :: r ∧ Rel m x c ∧ RelL m xs r
def RelE (m : Ghost) (k : Nat) : List AV → List Value → Prop
  | [], cs => cs = []
  | x :: xs, cs => ∃ v r, cs = v.cells.toList ++ r ∧ v.cells.size = k ∧ Rel m x v ∧ RelE m k xs r
end

theorem Win.mono {m m' : Ghost} (h : Gle m m') {A : Option Addr} {N : Nat} {R R' : List Value → Prop} (hr : ∀ ys, R ys → R' ys) (k : Win m A N R) : Win m' A N R' := by
  obtain ⟨b, off, cs, e, fr, h1, h2, h3, h4, h5⟩ := k
  exact ⟨b, off, cs, e, fr, h1, h _ _ h2, h3, hr _ h4, h5⟩

mutual
theorem Rel.mono {m m' : Ghost} (h : Gle m m') : ∀ {x : AV} {v : Value}, Rel m x v → Rel m' x v
  | .val _, v, k => by simpa only [Rel] using k
  | .agg l, v, k => by
    simp only [Rel] at *
    obtain ⟨cs, rfl, k⟩ := k
    exact ⟨cs, rfl, RelL.mono h k⟩
  | .tup l, v, k => by
    simp only [Rel] at *
    obtain ⟨cs, rfl, k⟩ := k
    exact ⟨cs, rfl, RelL.mono h k⟩
  | .ro k l, v, q => by
    simp only [Rel] at *
    obtain ⟨A, c, rfl, h1, h2, h3, h4⟩ := q
    exact ⟨A, c, rfl, h1, h2, h3, fun hl => (h4 hl).mono h (fun ys => RelE.mono h)⟩
  | .rp k l i off, v, q => by
    simp only [Rel] at *
    obtain ⟨b, o, rfl, h1, h2⟩ := q
    exact ⟨b, o, rfl, h1, h2.mono h (fun ys => RelE.mono h)⟩
  | .clo f l, v, k => by
    simp only [Rel] at *
    obtain ⟨cs, rfl, k⟩ := k
    exact ⟨cs, rfl, RelL.mono h k⟩
  | .mro ks l, v, k => by
    simp only [Rel] at *
    obtain ⟨r, rfl, k⟩ := k
    refine ⟨r, rfl, ?_⟩
    rcases k with k | ⟨g, es, clk, es', k1, k2, k3, k4, k5⟩
    · exact .inl k
    · exact .inr ⟨g, es, clk, es', k1, h _ _ k2, k3, k4, RelL.mono h k5⟩
  | .vw _ _ _ _, v, k => by simpa only [Rel] using k
  | .ep _ _ _ _, v, k => by simpa only [Rel] using k
  | .emp, v, k => by simpa only [Rel] using k
theorem RelL.mono {m m' : Ghost} (h : Gle m m') : ∀ {xs : List AV} {cs : List Value}, RelL m xs cs → RelL m' xs cs
  | [], cs, k => by simpa only [RelL] using k
  | x :: xs, cs, k => by
    simp only [RelL] at *
    obtain ⟨c, r, rfl, k1, k2⟩ := k
    exact ⟨c, r, rfl, Rel.mono h k1, RelL.mono h k2⟩
theorem RelE.mono {m m' : Ghost} (h : Gle m m') {k : Nat} : ∀ {xs : List AV} {cs : List Value}, RelE m k xs cs → RelE m' k xs cs
  | [], cs, q => by simpa only [RelE] using q
  | x :: xs, cs, q => by
    simp only [RelE] at *
    obtain ⟨v, r, rfl, h1, k1, k2⟩ := q
    exact ⟨v, r, rfl, h1, Rel.mono h k1, RelE.mono h k2⟩
end

/-- The cells of an abstract value. -/
def AV.cells : AV → List AV
  | .agg l => l
  | x => [x]
/-- It fits one cell. -/
def AV.one : AV → Bool
  | .agg _ => false
  | .tup _ => false
  | _ => true

theorem RelL.length {m : Ghost} : ∀ {xs : List AV} {cs : List Value}, RelL m xs cs → cs.length = xs.length
  | [], cs, h => by simp only [RelL] at h; subst h; rfl
  | x :: xs, cs, h => by
    simp only [RelL] at h
    obtain ⟨c, r, rfl, _, h2⟩ := h
    simp [h2.length]
theorem RelL.at {m : Ghost} : ∀ {xs : List AV} {cs : List Value}, RelL m xs cs → ∀ (i : Nat) (x : AV), xs[i]? = some x → ∃ c, cs[i]? = some c ∧ Rel m x c
  | [], cs, _, i, x, hx => by simp at hx
  | y :: xs, cs, h, i, x, hx => by
    simp only [RelL] at h
    obtain ⟨c, r, rfl, h1, h2⟩ := h
    cases i with
    | zero => simp at hx; subst hx; exact ⟨c, rfl, h1⟩
    | succ i => simpa using h2.at i x (by simpa using hx)
theorem relL_of_at {m : Ghost} : ∀ {xs : List AV} {cs : List Value}, cs.length = xs.length → (∀ (i : Nat) (x : AV) (c : Value), xs[i]? = some x → cs[i]? = some c → Rel m x c) → RelL m xs cs
  | [], cs, hl, _ => by simp only [RelL]; exact List.eq_nil_of_length_eq_zero hl
  | x :: xs, [], hl, _ => by simp at hl
  | x :: xs, c :: cs, hl, h => by
    simp only [RelL]
    exact ⟨c, cs, rfl, h 0 x c rfl rfl, relL_of_at (by simpa using hl) (fun i y d hy hd => h (i + 1) y d (by simpa using hy) (by simpa using hd))⟩
theorem RelL.drop {m : Ghost} {xs : List AV} {cs : List Value} (h : RelL m xs cs) (n : Nat) : RelL m (xs.drop n) (cs.drop n) :=
  relL_of_at (by simp [h.length]) fun i x c hx hc => by
    rw [List.getElem?_drop] at hx hc
    obtain ⟨c', h1, h2⟩ := h.at _ _ hx
    rw [h1] at hc; injection hc with hc; subst hc; exact h2
theorem RelL.take {m : Ghost} {xs : List AV} {cs : List Value} (h : RelL m xs cs) (n : Nat) : RelL m (xs.take n) (cs.take n) :=
  relL_of_at (by simp [h.length]) fun i x c hx hc => by
    rw [List.getElem?_take] at hx hc
    split at hx
    · rename_i hi
      rw [if_pos hi] at hc
      obtain ⟨c', h1, h2⟩ := h.at _ _ hx
      rw [h1] at hc; injection hc with hc; subst hc; exact h2
    · cases hx
theorem RelL.append {m : Ghost} {xs ys : List AV} {cs ds : List Value} (h : RelL m xs cs) (k : RelL m ys ds) : RelL m (xs ++ ys) (cs ++ ds) := by
  induction xs generalizing cs with
  | nil => simp only [RelL] at h; subst h; exact k
  | cons x xs ih =>
    simp only [RelL] at h
    obtain ⟨c, r, rfl, h1, h2⟩ := h
    simp only [List.cons_append, RelL]
    exact ⟨c, _, rfl, h1, ih h2⟩
theorem RelL.set {m : Ghost} {xs : List AV} {cs : List Value} (h : RelL m xs cs) {i : Nat} {x : AV} {c : Value} (hx : Rel m x c) : RelL m (xs.set i x) (cs.set i c) :=
  relL_of_at (by simp [h.length]) fun j y d hy hd => by
    by_cases hij : i = j
    · subst hij
      rw [List.getElem?_set_self'] at hy hd
      cases h1 : xs[i]? <;> rw [h1] at hy <;> simp at hy
      cases h2 : cs[i]? <;> rw [h2] at hd <;> simp at hd
      subst hy; subst hd; exact hx
    · rw [List.getElem?_set_ne hij] at hy hd
      obtain ⟨d', h1, h2⟩ := h.at _ _ hy
      rw [h1] at hd; injection hd with hd; subst hd; exact h2

theorem Rel.one {m : Ghost} {x : AV} {v : Value} (h : Rel m x v) (h1 : x.one = true) : v.oneCell' = true := by
  cases x <;> simp only [Rel] at h
  case val u => obtain ⟨rfl, h⟩ := h; exact h
  case agg => simp [AV.one] at h1
  case tup => simp [AV.one] at h1
  case ro => obtain ⟨A, c, rfl, _⟩ := h; rfl
  case rp => obtain ⟨A, c, rfl, _⟩ := h; rfl
  case clo => obtain ⟨A, rfl, _⟩ := h; rfl
  case mro => obtain ⟨A, rfl, _⟩ := h; rfl
  case vw => obtain ⟨A, c, rfl, _⟩ := h; rfl
  case ep => obtain ⟨A, c, cap, rfl, _⟩ := h; rfl
  case emp => obtain ⟨A, rfl⟩ := h; rfl
theorem rel_val {m : Ghost} {v : Value} (h : v.oneCell' = true) : Rel m (.val v) v := by unfold Rel; exact ⟨rfl, h⟩
theorem rel_undef {m : Ghost} : Rel m (.tup []) undef := by simp only [Rel]; exact ⟨#[], rfl, by simp [RelL]⟩
theorem relL_vals (m : Ghost) : ∀ cs : List Value, (∀ c ∈ cs, c.oneCell' = true) → RelL m (cs.map .val) cs
  | [], _ => by simp [RelL]
  | c :: cs, h => by
    simp only [List.map_cons, RelL]
    exact ⟨c, cs, rfl, rel_val (h c (by simp)), relL_vals m cs fun x hx => h x (by simp [hx])⟩
theorem cells_one {v : Value} (h : v.oneCell' = true) : v.cells = #[v] := by cases v <;> first | rfl | (simp [Value.oneCell'] at h)
theorem Rel.cells {m : Ghost} {x : AV} {v : Value} (h : Rel m x v) : RelL m x.cells v.cells.toList := by
  cases x
  case agg l => simp only [Rel] at h; obtain ⟨cs, rfl, h⟩ := h; exact h
  case val u =>
    simp only [Rel] at h
    obtain ⟨rfl, h⟩ := h
    rw [cells_one h]
    simp only [AV.cells, RelL]
    exact ⟨_, _, rfl, rel_val h, rfl⟩
  all_goals
    have hv : v.cells = #[v] := by
      simp only [Rel] at h
      first
        | (obtain ⟨_, rfl, _⟩ := h; rfl)
        | (obtain ⟨_, rfl⟩ := h; rfl)
        | (obtain ⟨_, _, rfl, _⟩ := h; rfl)
        | (obtain ⟨_, _, _, rfl, _⟩ := h; rfl)
    rw [hv]
    simp only [AV.cells, RelL]
    exact ⟨_, _, rfl, h, rfl⟩

theorem RelE.length {m : Ghost} {k : Nat} : ∀ {xs : List AV} {cs : List Value}, RelE m k xs cs → cs.length = xs.length * k
  | [], cs, h => by simp only [RelE] at h; subst h; simp
  | x :: xs, cs, h => by
    simp only [RelE] at h
    obtain ⟨v, r, rfl, h0, _, h2⟩ := h
    rw [List.length_append, h2.length, List.length_cons, Nat.succ_mul, Array.length_toList, h0, Nat.add_comm]
/-- Element i: its value, and its cells. -/
theorem RelE.at {m : Ghost} {k : Nat} : ∀ {xs : List AV} {cs : List Value}, RelE m k xs cs → ∀ (i : Nat) (x : AV), xs[i]? = some x →
    ∃ v, Rel m x v ∧ v.cells.size = k ∧ (cs.drop (i * k)).take k = v.cells.toList
  | [], cs, _, i, x, hx => by simp at hx
  | y :: xs, cs, h, i, x, hx => by
    simp only [RelE] at h
    obtain ⟨v, r, rfl, h0, h1, h2⟩ := h
    cases i with
    | zero =>
      simp at hx; subst hx
      refine ⟨v, h1, h0, ?_⟩
      rw [Nat.zero_mul, List.drop_zero, List.take_left' (by simpa using h0)]
    | succ i =>
      obtain ⟨u, g1, g2, g3⟩ := h2.at i x (by simpa using hx)
      refine ⟨u, g1, g2, ?_⟩
      rw [← g3, Nat.succ_mul, Nat.add_comm, ← List.drop_drop, List.drop_left' (by simpa using h0)]
theorem RelE.append {m : Ghost} {k : Nat} {xs ys : List AV} {cs ds : List Value} (h : RelE m k xs cs) (q : RelE m k ys ds) : RelE m k (xs ++ ys) (cs ++ ds) := by
  induction xs generalizing cs with
  | nil => simp only [RelE] at h; subst h; exact q
  | cons x xs ih =>
    simp only [RelE] at h
    obtain ⟨v, r, rfl, h0, h1, h2⟩ := h
    simp only [List.cons_append, RelE]
    exact ⟨v, _, by rw [List.append_assoc], h0, h1, ih h2⟩
theorem RelE.take {m : Ghost} {k : Nat} : ∀ {xs : List AV} {cs : List Value}, RelE m k xs cs → ∀ n, RelE m k (xs.take n) (cs.take (n * k))
  | [], cs, h, n => by simp only [RelE] at h; subst h; simp [RelE]
  | x :: xs, cs, h, 0 => by simp [RelE]
  | x :: xs, cs, h, n + 1 => by
    simp only [RelE] at h
    obtain ⟨v, r, rfl, h0, h1, h2⟩ := h
    simp only [List.take_succ_cons, RelE]
    refine ⟨v, r.take (n * k), ?_, h0, h1, h2.take n⟩
    rw [List.take_append, List.take_of_length_le (by rw [Array.length_toList, h0, Nat.succ_mul]; omega), Array.length_toList, h0, Nat.succ_mul]
    congr 2
    omega
theorem RelE.drop {m : Ghost} {k : Nat} : ∀ {xs : List AV} {cs : List Value}, RelE m k xs cs → ∀ n, RelE m k (xs.drop n) (cs.drop (n * k))
  | [], cs, h, n => by simp only [RelE] at h; subst h; simp [RelE]
  | x :: xs, cs, h, 0 => by simpa using h
  | x :: xs, cs, h, n + 1 => by
    simp only [RelE] at h
    obtain ⟨v, r, rfl, h0, h1, h2⟩ := h
    simp only [List.drop_succ_cons]
    rw [Nat.succ_mul, Nat.add_comm, ← List.drop_drop, List.drop_left' (by simpa using h0)]
    exact h2.drop n
theorem relE_set {m : Ghost} {k : Nat} : ∀ {xs : List AV} {cs : List Value}, RelE m k xs cs → ∀ (i : Nat) (x : AV) (v : Value), Rel m x v → v.cells.size = k → i < xs.length →
    RelE m k (xs.set i x) (cs.take (i * k) ++ v.cells.toList ++ cs.drop (i * k + k))
  | [], cs, _, i, x, v, _, _, hi => by simp at hi
  | y :: xs, cs, h, i, x, v, hx, hv, hi => by
    simp only [RelE] at h
    obtain ⟨u, r, rfl, h0, h1, h2⟩ := h
    cases i with
    | zero =>
      simp only [List.set_cons_zero, RelE]
      refine ⟨v, r, ?_, hv, hx, h2⟩
      simp only [Nat.zero_mul, List.take_zero, List.nil_append, Nat.zero_add]
      rw [List.drop_left' (by simpa using h0)]
    | succ i =>
      simp only [List.set_cons_succ, RelE]
      refine ⟨u, _, ?_, h0, h1, relE_set h2 i x v hx hv (by simpa using hi)⟩
      have e1 : (i + 1) * k = k + i * k := by rw [Nat.succ_mul, Nat.add_comm]
      rw [e1, List.take_append, List.take_of_length_le (by rw [Array.length_toList, h0]; omega), Array.length_toList, h0, Nat.add_sub_cancel_left,
        show k + i * k + k = k + (i * k + k) by omega, ← List.drop_drop (i := i * k + k), List.drop_left' (by simpa using h0)]
      simp only [List.append_assoc]

/-! ### What is owned -/
/-- A variable's cells; the row of an owned slice v (nil, or from its block's head on), its elements of k cells; an object as it is; a map. -/
inductive OE where
  | box (b : Nat) (l : List AV) (ty : Nat)
  | own (v : Value) (k : Nat) (l : List AV) (e : Nat)
  | raw (b : Nat) (o : Obj)
  | mp (b : Nat) (ks : List Value) (l : List AV)
  | mit (b : Nat) (ks : List Value) (l : List AV) (left : List Nat) (last : Option Nat)
def ownBlk : Value → Option Nat
  | .slice (some a) _ c => if c = 0 then none else some a.block
  | _ => none
def OE.blk : OE → Option Nat
  | .box b _ _ => some b
  | .own v _ _ _ => ownBlk v
  | .raw b _ => some b
  | .mp b _ _ => some b
  | .mit b _ _ _ _ => some b
def OERel (m : Ghost) (w : World) : OE → Prop
  | .box b l ty => ∃ cs, w.heap[b]? = some (.cells cs ty (0, 0)) ∧ RelL m l cs.toList
  | .own v k l e => (∃ A, v = .slice A 0 0 ∧ l = []) ∨ (∃ b, ownBlk v = some b ∧ ∃ xs, w.ownsRow 0 e k v l.length xs ∧ RelE m k l xs ∧ (∀ y ∈ xs, y.oneCell' = true))
  | .raw b o => w.heap[b]? = some o
  | .mp b ks l => ∃ es clk es', w.heap[b]? = some (.map es clk) ∧ MapOk es.toList clk es' ∧ es'.map (·.key) = ks ∧ RelL m l (es'.map (·.val))
  | .mit b ks l left last => ∃ o, w.heap[b]? = some o ∧ ((ks = [] ∧ left = [] ∧ ∃ a c d, o = .mapIter none a c d) ∨ ∃ g es clk es' seen, o = .mapIter (some g) clk seen clk ∧ m g = some (.map es clk) ∧ MapOk es.toList clk es' ∧
      es'.map (·.key) = ks ∧ RelL m l (es'.map (·.val)) ∧ (∀ i, i ∈ left ↔ ∃ e, es'[i]? = some e ∧ e.born ∉ seen) ∧ left.Nodup ∧ (∀ i, last = some i → ∃ (e : MapEntry) (seen0 : Array Nat), es'[i]? = some e ∧ seen = seen0.push e.born))
theorem ownBlk_own {v : Value} {b : Nat} (h : ownBlk v = some b) : v.ownBlock = some b := by
  unfold ownBlk at h
  split at h
  · split at h
    · cases h
    · exact h
  · cases h
theorem OERel.mono {m m' : Ghost} (h : Gle m m') {x : OE} {w : World} (k : OERel m w x) : OERel m' w x := by
  cases x <;> simp only [OERel] at *
  case box => obtain ⟨cs, h1, k⟩ := k; exact ⟨cs, h1, k.mono h⟩
  case own =>
    rcases k with k | ⟨b, kb, xs, k1, k2, k3⟩
    · exact .inl k
    · exact .inr ⟨b, kb, xs, k1, k2.mono h, k3⟩
  case raw => exact k
  case mp => obtain ⟨es, clk, es', k0, k1, k2, k3⟩ := k; exact ⟨es, clk, es', k0, k1, k2, k3.mono h⟩
  case mit =>
    obtain ⟨o, k0, k⟩ := k
    refine ⟨o, k0, ?_⟩
    rcases k with k | ⟨g, es, clk, es', seen, k1, k2, k3, k4, k5, k6⟩
    · exact .inl k
    · exact .inr ⟨g, es, clk, es', seen, k1, h _ _ k2, k3, k4, k5.mono h, k6⟩
theorem OERel.lt {m : Ghost} {x : OE} {w : World} (k : OERel m w x) {b : Nat} (hb : x.blk = some b) : b < w.heap.size := by
  cases x <;> simp only [OERel, OE.blk] at *
  case box => injection hb with hb; subst hb; obtain ⟨cs, h1, k⟩ := k; exact (Array.getElem?_eq_some_iff.1 h1).1
  case own =>
    rcases k with ⟨A, rfl, _⟩ | ⟨b', kb, xs, k1, k2, k3⟩
    · cases A <;> simp [ownBlk] at hb
    · exact (k1.lt _ (ownBlk_own hb)).2
  case raw => injection hb with hb; subst hb; exact (Array.getElem?_eq_some_iff.1 k).1
  case mp => injection hb with hb; subst hb; obtain ⟨es, clk, es', k0, _⟩ := k; exact (Array.getElem?_eq_some_iff.1 k0).1
  case mit => injection hb with hb; subst hb; obtain ⟨o, k0, _⟩ := k; exact (Array.getElem?_eq_some_iff.1 k0).1
/-- It reads in its own block alone. -/
theorem OERel.local {m : Ghost} {x : OE} {w w' : World} (k : OERel m w x) (h : ∀ b, x.blk = some b → w'.heap[b]? = w.heap[b]?) : OERel m w' x := by
  cases x <;> simp only [OERel, OE.blk] at *
  case box => rw [h _ rfl]; exact k
  case own v kk l e =>
    rcases k with k | ⟨b', kb, xs, ⟨k0, k1⟩, k2⟩
    · exact .inl k
    refine .inr ⟨b', kb, xs, ⟨k0, ?_⟩, k2⟩
    rcases k1 with k1 | ⟨g, cap, cur, rfl, hb, hg, r⟩
    · exact .inl k1
    · have : b' = g := by have := ownBlk_own kb; simp [Value.ownBlock] at this; exact this.symm
      subst this
      exact .inr ⟨b', cap, cur, rfl, hb, (h b' kb).trans hg, r⟩
  case raw => rw [h _ rfl]; exact k
  case mp => rw [h _ rfl]; exact k
  case mit => rw [h _ rfl]; exact k

/-- What an owned slice is. -/
theorem OERel.own_cases {m : Ghost} {w : World} {v : Value} {k e : Nat} {l : List AV} (h : OERel m w (.own v k l e)) :
    (∃ A, v = .slice A 0 0 ∧ l = []) ∨ (∃ g cap cur xs, v = .slice (some ⟨g, 0, none⟩) l.length cap ∧ 0 < cap ∧ w.heap[g]? = some (.cells cur e (0, 0)) ∧ l.length ≤ cap ∧ cap ≤ maxLen ∧ cur.size = cap * k ∧
      cur.toList.take (l.length * k) = xs ∧ xs.length = l.length * k ∧ RelE m k l xs ∧ (∀ y ∈ xs, y.oneCell' = true) ∧ ownBlk v = some g ∧ w.ownsRow 0 e k v l.length xs) := by
  simp only [OERel] at h
  rcases h with h | ⟨b, kb, xs, h1, h2, h3⟩
  · exact .inl h
  · right
    have h1' := h1
    obtain ⟨k0, k1⟩ := h1
    rcases k1 with ⟨rfl, _⟩ | ⟨g, cap, cur, rfl, _, hg, r1, r2, r3, r4⟩
    · simp [ownBlk] at kb
    · have hc : 0 < cap := by
        simp only [ownBlk] at kb
        split at kb
        · cases kb
        · omega
      exact ⟨g, cap, cur, xs, rfl, hc, hg, r1, r2, r3, r4, k0, h2, h3, by simp [ownBlk]; omega, h1'⟩
theorem oerel_own {m : Ghost} {w : World} {g cap n k e : Nat} {l : List AV} {cur : Array Value} (hn : n = l.length) (hc : 0 < cap) (hg : w.heap[g]? = some (.cells cur e (0, 0))) (h1 : l.length ≤ cap) (h2 : cap ≤ maxLen) (h3 : cur.size = cap * k)
    (h4 : RelE m k l (cur.toList.take (l.length * k))) (h5 : ∀ y ∈ cur.toList.take (l.length * k), y.oneCell' = true) : OERel m w (.own (.slice (some ⟨g, 0, none⟩) n cap) k l e) := by
  subst hn
  right
  refine ⟨g, by simp [ownBlk]; omega, _, ⟨h4.length, .inr ⟨g, cap, cur, rfl, Nat.zero_le _, hg, h1, h2, h3, rfl⟩⟩, h4, h5⟩

abbrev Heap := List OE
def Holds (m : Ghost) (w : World) : Prop := ∀ b o, m b = some o → w.heap[b]? = some o
def HRel (m : Ghost) (h : Heap) (w : World) : Prop :=
  (h.filterMap OE.blk).Nodup ∧ ∀ x ∈ h, (∀ b, x.blk = some b → m b = none) ∧ OERel m w x
structure Same (w w' : World) : Prop where
  os : w'.os = w.os
  tape : w'.tape = w.tape
  output : w'.output = w.output
  size : w.heap.size ≤ w'.heap.size
theorem Same.refl (w : World) : Same w w := ⟨rfl, rfl, rfl, Nat.le_refl _⟩
theorem Same.trans {a b c : World} (h : Same a b) (k : Same b c) : Same a c := ⟨k.os.trans h.os, k.tape.trans h.tape, k.output.trans h.output, Nat.le_trans h.size k.size⟩
theorem Same.drew {a w : World} (h : Same a w) : Same a w.drew := ⟨h.os, h.tape, h.output, h.size⟩

def get : List (Nat × AV) → Nat → Option AV
  | [], _ => none
  | (k, v) :: r, t => bif Nat.beq k t then some v else get r t
/-- What is known: the temporaries' count, some temporaries, what is owned. -/
structure St where
  n : Nat
  t : List (Nat × AV)
  h : Heap
def TRel (m : Ghost) (t : List (Nat × AV)) (tmps : Array Value) : Prop := ∀ i v, get t i = some v → ∃ u, tmps[i]? = some u ∧ Rel m v u
/-- A ghost, and which blocks may be changed. -/
abbrev GF := Ghost × (Nat → Prop)
structure SimG (m0 : GF) (w0 : World) (m : Ghost) (s : St) (a : Act) (w : World) : Prop where
  le : Gle m0.1 m
  grow : ∀ b o, m b = some o → m0.1 b = some o ∨ m0.2 b ∨ w0.heap.size ≤ b
  frame : ∀ b, b < w0.heap.size → ¬ m0.2 b → w.heap[b]? = w0.heap[b]?
  own : ∀ x ∈ s.h, ∀ b, x.blk = some b → m0.2 b ∨ w0.heap.size ≤ b
  holds : Holds m w
  same : Same w0 w
  defers : a.defers = []
  size : a.tmps.size = s.n
  tmps : TRel m s.t a.tmps
  heap : HRel m s.h w
def Sim (m0 : GF) (w0 : World) (s : St) (a : Act) (w : World) : Prop := ∃ m, SimG m0 w0 m s a w

theorem get_eq {t : List (Nat × AV)} {i k : Nat} {v : AV} : get ((k, v) :: t) i = if k = i then some v else get t i := by
  simp only [get]
  by_cases h : k = i
  · subst h; simp
  · have : Nat.beq k i = false := by
      cases hb : Nat.beq k i
      · rfl
      · exact absurd (Nat.eq_of_beq_eq_true hb) h
    rw [this, if_neg h]; rfl
theorem TRel.mono {m m' : Ghost} (h : Gle m m') {t : List (Nat × AV)} {a : Array Value} (k : TRel m t a) : TRel m' t a := fun i v e => by
  obtain ⟨u, h1, h2⟩ := k i v e
  exact ⟨u, h1, h2.mono h⟩
theorem TRel.put {m : Ghost} {t : List (Nat × AV)} {a : Array Value} (k : TRel m t a) {d : Nat} (hd : d < a.size) {v : AV} {u : Value} (hv : Rel m v u) : TRel m ((d, v) :: t) (a.setIfInBounds d u) := by
  intro i x hx
  rw [get_eq] at hx
  by_cases h : d = i
  · subst h
    rw [if_pos rfl] at hx
    injection hx with hx
    subst hx
    exact ⟨u, by simp [hd], hv⟩
  · rw [if_neg h] at hx
    obtain ⟨y, h1, h2⟩ := k i x hx
    exact ⟨y, by rw [Array.getElem?_setIfInBounds_ne h]; exact h1, h2⟩
def St.put (s : St) (dst : Option Nat) (v : AV) : St := match dst with | some d => { s with t := (d, v) :: s.t } | none => s
def fits (s : St) (dst : Option Nat) : Bool := match dst with | some d => Nat.blt d s.n | none => true
theorem SimG.put {m0 : GF} {m : Ghost} {w0 w : World} {s : St} {a : Act} (h : SimG m0 w0 m s a w) {dst : Option Nat} (hf : fits s dst = true) {v : AV} {u : Value} (hv : Rel m v u) : SimG m0 w0 m (s.put dst v) (a.put dst u) w := by
  cases dst with
  | none => exact h
  | some d =>
    have hd : d < a.tmps.size := by rw [h.size]; simpa [fits] using hf
    exact { h with size := by simp [Act.put, St.put, h.size], tmps := TRel.put h.tmps hd hv, own := h.own }
theorem HRel.mono {m m' : Ghost} (h : Gle m m') {hp : Heap} {w : World} (k : HRel m hp w) (hn : ∀ x ∈ hp, ∀ b, x.blk = some b → m' b = none) : HRel m' hp w :=
  ⟨k.1, fun x hx => ⟨hn x hx, (k.2 x hx).2.mono h⟩⟩
/-- Each temporary as it was, in a world that is not less. -/
theorem Holds.lt {m : Ghost} {w : World} (h : Holds m w) {b : Nat} {o : Obj} (k : m b = some o) : b < w.heap.size := (Array.getElem?_eq_some_iff.1 (h b o k)).1
theorem HRel.lt {m : Ghost} {hp : Heap} {w : World} (h : HRel m hp w) {x : OE} (k : x ∈ hp) {b : Nat} (hb : x.blk = some b) : b < w.heap.size := (h.2 x k).2.lt hb

/-! ### What a call promises, and a piece of code -/
/-- What a call with h may not touch. -/
structure Kept (m : Ghost) (h : Heap) (w : World) (m' : Ghost) (h' : Heap) (w' : World) : Prop where
  grow : ∀ b o, m' b = some o → m b = some o ∨ (∃ y ∈ h, y.blk = some b) ∨ w.heap.size ≤ b
  frame : ∀ b, b < w.heap.size → (¬ ∃ y ∈ h, y.blk = some b) → w'.heap[b]? = w.heap[b]?
  own : ∀ x ∈ h', ∀ b, x.blk = some b → (∃ y ∈ h, y.blk = some b) ∨ w.heap.size ≤ b
def ACalls (P : Program) (f : FuncId) (args : List AV) (h : Heap) (Q : AV → Heap → Prop) : Prop :=
  ∀ (m : Ghost) (w : World) (vs : List Value), Holds m w → RelL m args vs → HRel m h w →
    Calls P f vs.toArray w fun e w' => ∃ m' v r h', e = .returned v ∧ Gle m m' ∧ Holds m' w' ∧ Same w w' ∧ Rel m' r v ∧ HRel m' h' w' ∧ Kept m h w m' h' w' ∧ Q r h'
theorem ACalls.mono {P : Program} {f : FuncId} {args : List AV} {h : Heap} {Q Q' : AV → Heap → Prop} (k : ACalls P f args h Q) (hq : ∀ r h', Q r h' → Q' r h') : ACalls P f args h Q' :=
  fun m w vs h1 h2 h3 => (k m w vs h1 h2 h3).mono fun e w' ⟨m', v, r, h', g1, g2, g3, g4, g5, g6, g7, g8⟩ => ⟨m', v, r, h', g1, g2, g3, g4, g5, g6, g7, hq _ _ g8⟩
def W (P : Program) (c : Code) (Q : Exit → St → Prop) (s : St) : Prop :=
  ∀ m0 w0 a w, Sim m0 w0 s a w → c.wp P (fun e a' w' => ∃ s', Q e s' ∧ Sim m0 w0 s' a' w') a w
def Step (P : Program) (o : Oper) (s : St) (K : St → Prop) : Prop :=
  ∀ m0 w0 a w, Sim m0 w0 s a w → ∀ Q, o.wp P a w (fun a' w' => ∃ s', K s' ∧ Sim m0 w0 s' a' w') Q
/-- Two worlds hold the same in what is owned. -/
def Agr (h : Heap) (w0 w : World) : Prop := ∀ x ∈ h, ∀ b, x.blk = some b → w.heap[b]? = w0.heap[b]?
/-- An operation that reads alone. -/
def Pur (P : Program) (o : Oper) (t : List (Nat × AV)) (h : Heap) (v : AV) : Prop :=
  ∀ (m : Ghost) (a : Act) (w0 : World), TRel m t a.tmps → Holds m w0 → HRel m h w0 → ∃ u, Rel m v u ∧ ∀ w, Holds m w → Agr h w0 w → (execOp a.eval o).run P w = .ok (.value u) w
/-- An operation that looks at its operands alone. -/
def PurV (P : Program) (o : Oper) (t : List (Nat × AV)) (h : Heap) (v : AV) : Prop :=
  ∀ (m : Ghost) (a : Act) (w0 : World), TRel m t a.tmps → Holds m w0 → HRel m h w0 → ∃ u, Rel m v u ∧ ∀ w, (execOp a.eval o).run P w = .ok (.value u) w
theorem PurV.pur {P : Program} {o : Oper} {t : List (Nat × AV)} {h : Heap} {v : AV} (k : PurV P o t h v) : Pur P o t h v := fun m a w0 h1 h2 h3 =>
  let ⟨u, g1, g2⟩ := k m a w0 h1 h2 h3; ⟨u, g1, fun w _ _ => g2 w⟩
theorem HRel.agr {m : Ghost} {h : Heap} {w0 w : World} (k : HRel m h w0) (q : Agr h w0 w) : HRel m h w :=
  ⟨k.1, fun x hx => ⟨(k.2 x hx).1, (k.2 x hx).2.local (q x hx)⟩⟩
def RL (P : Program) (ops : Array Oper) (rest : List Oper) (s : St) (K : St → Prop) : Prop :=
  ∀ i, ops.toList.drop i = rest → ∀ m0 w0 a w, Sim m0 w0 s a w → ∀ Q : Exit → Act → World → Prop, (∀ a' w' s', K s' → Sim m0 w0 s' a' w' → Q .normal a' w') → wpOps P ops Q (List.range' i rest.length) a w

section
variable {P : Program} {ops : Array Oper} {o : Oper} {rest : List Oper} {s : St} {K : St → Prop} {Q : Exit → St → Prop}
theorem step_pur {v : AV} (h : Pur P o s.t s.h v) (hf : fits s o.dst = true) (k : K (s.put o.dst v)) : Step P o s K := by
  intro m0 w0 a w ⟨m, hs⟩ Q
  obtain ⟨u, hu, hr⟩ := h m a w hs.tmps hs.holds hs.heap
  unfold Oper.wp
  rw [hr w hs.holds (fun _ _ _ _ => rfl)]
  exact ⟨_, k, m, hs.put hf hu⟩
theorem step_v {v : AV} (h : PurV P o s.t s.h v) (hf : fits s o.dst = true) (k : K (s.put o.dst v)) : Step P o s K := step_pur h.pur hf k
theorem RL.nil (h : K s) : RL P ops [] s K := fun i _ m0 w0 a w hs Q hQ => hQ _ _ _ h hs
theorem drop_cons {α : Type} {l rest : List α} {i : Nat} {x : α} (h : l.drop i = x :: rest) : l[i]? = some x ∧ l.drop (i + 1) = rest := by
  constructor
  · have := congrArg List.head? h
    simpa [List.head?_drop] using this
  · have := congrArg List.tail h
    simpa [List.tail_drop] using this
theorem RL.cons (hg : o.guard = none) (h : Step P o s (fun s' => RL P ops rest s' K)) : RL P ops (o :: rest) s K := by
  intro i hi m0 w0 a w hs Q hQ
  obtain ⟨h1, h2⟩ := drop_cons hi
  have h1' : ops[i]? = some o := by simpa using h1
  rw [List.length_cons, List.range'_succ, wpOps_cons]
  unfold wpOp
  simp only [h1']
  rw [if_pos (by simp [Region.wanted, hg])]
  left
  exact Oper.wp_mono (fun a' w' ⟨s', hk, hs'⟩ => hk _ h2 _ _ _ _ hs' Q hQ) (h m0 w0 a w hs Q)
/-- A guarded operation: the guard's slot is known. -/
theorem RL.guarded {j : Nat} {want b : Bool} {d : Nat} (hg : o.guard = some (j, want)) (hj : (ops[j]?).bind (·.dst) = some d) (hd : get s.t d = some (.val (.bool b)))
    (h1 : b = want → Step P o s (fun s' => RL P ops rest s' K)) (hf : fits s o.dst = true) (h2 : b ≠ want → RL P ops rest (s.put o.dst (.tup [])) K) : RL P ops (o :: rest) s K := by
  intro i hi m0 w0 a w hs Q hQ
  obtain ⟨e1, e2⟩ := drop_cons hi
  have h1' : ops[i]? = some o := by simpa using e1
  rw [List.length_cons, List.range'_succ, wpOps_cons]
  have hy : yielded ops a.tmps j = some b := by
    obtain ⟨m, hm⟩ := hs
    obtain ⟨u, g1, g2⟩ := hm.tmps d _ hd
    simp only [Rel] at g2
    obtain ⟨rfl, _⟩ := g2
    simp [yielded, hj, g1]
  unfold wpOp
  simp only [h1']
  by_cases hb : b = want
  · rw [if_pos (by simp [Region.wanted, hg, hy, hb])]
    left
    exact Oper.wp_mono (fun a' w' ⟨s', hk, hs'⟩ => hk _ e2 _ _ _ _ hs' Q hQ) (h1 hb m0 w0 a w hs Q)
  · rw [if_neg (by simp [Region.wanted, hg, hy, hb])]
    obtain ⟨m, hm⟩ := hs
    exact h2 hb _ e2 _ _ _ _ ⟨m, hm.put hf rel_undef⟩ Q hQ
def Then (K : St → Prop) (Q : Exit → St → Prop) : Exit → St → Prop
  | .normal, s => K s
  | e, s => Q e s
theorem W.mono {c : Code} {Q' : Exit → St → Prop} (h : W P c Q s) (hq : ∀ e s, Q e s → Q' e s) : W P c Q' s :=
  fun m0 w0 a w hs => wp_mono (h m0 w0 a w hs) fun e a' w' ⟨s', h1, h2⟩ => ⟨s', hq _ _ h1, h2⟩
theorem W.region {id : Nat} (h : RL P ops ops.toList s (Q .normal)) : W P (.region id ops false) Q s := by
  intro m0 w0 a w hs
  refine wp_region ?_
  have := h 0 (by simp) m0 w0 a w hs (fun e a' w' => ∃ s', Q e s' ∧ Sim m0 w0 s' a' w') (fun a' w' s' h1 h2 => ⟨s', h1, h2⟩)
  simpa [List.range_eq_range'] using this
theorem W.seq {x y : Code} (h : W P x (Then (W P y Q) Q) s) : W P (.seq x y) Q s := by
  intro m0 w0 a w hs
  refine wp_seq (wp_mono (h m0 w0 a w hs) fun e a' w' ⟨s', h1, h2⟩ => ?_)
  cases e <;> first | exact h1 m0 w0 a' w' h2 | exact ⟨s', h1, h2⟩
theorem W.skip (h : Q .normal s) : W P .skip Q s := fun m0 w0 a w hs => wp_skip ⟨s, h, hs⟩
theorem W.label {l : Nat} (h : Q .normal s) : W P (.label l) Q s := fun m0 w0 a w hs => wp_label ⟨s, h, hs⟩
theorem W.exit {id : Nat} (h : Q (.exit id) s) : W P (.exit id) Q s := fun m0 w0 a w hs => wp_exit ⟨s, h, hs⟩
theorem W.goto {id : Nat} (h : Q (.goto id) s) : W P (.goto id) Q s := fun m0 w0 a w hs => wp_goto ⟨s, h, hs⟩
theorem W.ret (h : Q .ret s) : W P .ret Q s := fun m0 w0 a w hs => wp_ret ⟨s, h, hs⟩
def evalA (t : List (Nat × AV)) : Operand → Option AV
  | .tmp i => get t i
  | .const (.agg cs) => if cs.all (·.oneCell') then some (.agg (cs.toList.map .val)) else none
  | .const (.tuple _) => none
  | .const v => some (.val v)
  | .global g => some (.val (.pointer (some ⟨g, 0, none⟩)))
  | .func f => some (.val (.func (.func f) #[] #[]))
theorem TRel.eval {m : Ghost} {t : List (Nat × AV)} {a : Act} (h : TRel m t a.tmps) {x : Operand} {v : AV} (hx : evalA t x = some v) : Rel m v (a.eval x) := by
  cases x with
  | tmp i =>
    obtain ⟨u, h1, h2⟩ := h i v hx
    simpa [Act.eval, h1] using h2
  | const u =>
    cases u
    case agg cs =>
      simp only [evalA] at hx
      split at hx
      · rename_i hc
        injection hx with hx; subst hx
        simp only [Rel, Act.eval]
        exact ⟨cs, rfl, relL_vals m _ fun c hc' => by simpa using (Array.all_eq_true_iff_forall_mem.1 hc) c (by simpa using hc')⟩
      · cases hx
    case tuple cs => simp [evalA] at hx
    all_goals simp only [evalA] at hx; injection hx with hx; subst hx; exact rel_val rfl
  | global g => simp only [evalA] at hx; injection hx with hx; subst hx; exact rel_val rfl
  | func f => simp only [evalA] at hx; injection hx with hx; subst hx; exact rel_val rfl
theorem W.cond {c : Operand} {x y : Code} {b : Bool} (hc : evalA s.t c = some (.val (.bool b))) (h1 : b = true → W P x Q s) (h2 : b = false → W P y Q s) : W P (.cond c x y) Q s := by
  intro m0 w0 a w hs
  have he : a.eval c = .bool b := by
    obtain ⟨m, hm⟩ := hs
    have := hm.tmps.eval hc
    simp only [Rel] at this
    exact this.1
  exact wp_cond_split he (fun hb => h1 hb m0 w0 a w hs) (fun hb => h2 hb m0 w0 a w hs)
def InBlock (id : Nat) (Q : Exit → St → Prop) : Exit → St → Prop
  | .exit i, s => if i = id then Q .normal s else Q (.exit i) s
  | e, s => Q e s
theorem W.block {id : Nat} {c : Code} (h : W P c (InBlock id Q) s) : W P (.block id c) Q s := by
  intro m0 w0 a w hs
  refine wp_block (wp_mono (h m0 w0 a w hs) fun e a' w' ⟨s', h1, h2⟩ => ?_)
  cases e with
  | exit i =>
    simp only [Exit.inBlock, InBlock] at *
    split <;> rename_i hi
    · rw [if_pos hi] at h1; exact ⟨s', h1, h2⟩
    · rw [if_neg hi] at h1; exact ⟨s', h1, h2⟩
  | _ => exact ⟨s', h1, h2⟩
/-! ### Less is known -/
theorem entries_perm {m : Ghost} {a b : List (Value × AV)} (h : a.Perm b) : ∀ {es : List MapEntry}, es.map (·.key) = a.map (·.1) → RelL m (a.map (·.2)) (es.map (·.val)) →
    ∃ es' : List MapEntry, es'.Perm es ∧ es'.map (·.key) = b.map (·.1) ∧ RelL m (b.map (·.2)) (es'.map (·.val)) := by
  induction h with
  | nil => intro es h1 h2; exact ⟨es, .refl _, h1, h2⟩
  | @cons x l1 l2 _ ih =>
    intro es h1 h2
    cases es with
    | nil => simp at h1
    | cons e es =>
      simp only [List.map_cons, List.cons.injEq] at h1
      simp only [List.map_cons, RelL] at h2
      obtain ⟨c, r, e1, h3, h4⟩ := h2
      injection e1 with e1 e2
      subst e1; subst e2
      obtain ⟨es', k1, k2, k3⟩ := ih h1.2 h4
      exact ⟨e :: es', k1.cons _, by simp [k2, h1.1], by simp only [List.map_cons, RelL]; exact ⟨_, _, rfl, h3, k3⟩⟩
  | swap x y l =>
    intro es h1 h2
    match es, h1, h2 with
    | [], h1, h2 => simp at h1
    | [_], h1, h2 => simp at h1
    | e :: f :: es, h1, h2 =>
      simp only [List.map_cons, List.cons.injEq] at h1
      simp only [List.map_cons, RelL] at h2
      obtain ⟨c, r, e1, h3, c2, r2, e2, h4, h5⟩ := h2
      injection e1 with e1 e3
      subst e1
      rw [e2] at e3
      injection e3 with e4 e5
      subst e4; subst e5
      exact ⟨f :: e :: es, List.Perm.swap _ _ _, by simp [h1.1, h1.2.1, h1.2.2], by simp only [List.map_cons, RelL]; exact ⟨_, _, rfl, h4, _, _, rfl, h3, h5⟩⟩
  | trans _ _ ih1 ih2 =>
    intro es h1 h2
    obtain ⟨es1, k1, k2, k3⟩ := ih1 h1 h2
    obtain ⟨es2, q1, q2, q3⟩ := ih2 k2 k3
    exact ⟨es2, q1.trans k1, q2, q3⟩
theorem MapOk.perm {es : List MapEntry} {clk : Nat} {es' es2 : List MapEntry} (h : MapOk es clk es') (k : es2.Perm es') : MapOk es clk es2 := ⟨k.trans h.1, h.2⟩
inductive Wk : AV → AV → Prop
  | refl (x : AV) : Wk x x
  | nilr (k : Nat) : Wk (.val (.slice none 0 0)) (.ro k [])
  | nilm : Wk (.val (.map none)) (.mro [] [])
  | mapp {a b : List (Value × AV)} (h : a.Perm b) : Wk (.mro (a.map (·.1)) (a.map (·.2))) (.mro (b.map (·.1)) (b.map (·.2)))
  | aggn : Wk (.agg []) (.agg [])
  | aggc {x y : AV} {r q : List AV} (h : Wk x y) (hr : Wk (.agg r) (.agg q)) : Wk (.agg (x :: r)) (.agg (y :: q))
  | tupn : Wk (.tup []) (.tup [])
  | tupc {x y : AV} {r q : List AV} (h : Wk x y) (hr : Wk (.tup r) (.tup q)) : Wk (.tup (x :: r)) (.tup (y :: q))
theorem Wk.rel {x y : AV} (h : Wk x y) {m : Ghost} : ∀ {u}, Rel m x u → Rel m y u := by
  induction h with
  | refl => exact fun h => h
  | nilr k => intro u h; simp only [Rel] at h ⊢; obtain ⟨rfl, _⟩ := h; exact ⟨none, 0, rfl, Nat.le_refl _, Nat.zero_le _, fun _ => rfl, fun h => absurd rfl h⟩
  | nilm => intro u h; simp only [Rel] at h ⊢; obtain ⟨rfl, _⟩ := h; exact ⟨none, rfl, .inl (by simp)⟩
  | @mapp a b hp =>
    intro u h
    simp only [Rel] at h ⊢
    obtain ⟨r, rfl, h⟩ := h
    refine ⟨r, rfl, ?_⟩
    rcases h with ⟨h1, h2, _⟩ | ⟨g, es, clk, es', k1, k2, k3, k4, k5⟩
    · have : a = [] := by simpa using h2
      subst this
      have := hp.nil_eq
      subst this
      exact .inl ⟨h1, by simp⟩
    · obtain ⟨es2, q1, q2, q3⟩ := entries_perm hp k4 k5
      exact .inr ⟨g, es, clk, es2, k1, k2, k3.perm q1, q2, q3⟩
  | aggn => exact fun h => h
  | tupn => exact fun h => h
  | aggc h hr ih1 ih2 =>
    intro u k
    simp only [Rel] at k
    obtain ⟨cs, rfl, k⟩ := k
    obtain ⟨c, r, e, k1, k2⟩ := (by simpa only [RelL] using k)
    have := ih2 (u := .agg r.toArray) (by simp only [Rel]; exact ⟨_, rfl, k2⟩)
    simp only [Rel] at this ⊢
    obtain ⟨cs', e', k3⟩ := this
    injection e' with e'
    refine ⟨cs, rfl, ?_⟩
    rw [e]
    simp only [RelL]
    exact ⟨c, r, rfl, ih1 k1, by rw [← e'] at k3; exact k3⟩
  | tupc h hr ih1 ih2 =>
    intro u k
    simp only [Rel] at k
    obtain ⟨cs, rfl, k⟩ := k
    obtain ⟨c, r, e, k1, k2⟩ := (by simpa only [RelL] using k)
    have := ih2 (u := .tuple r.toArray) (by simp only [Rel]; exact ⟨_, rfl, k2⟩)
    simp only [Rel] at this ⊢
    obtain ⟨cs', e', k3⟩ := this
    injection e' with e'
    refine ⟨cs, rfl, ?_⟩
    rw [e]
    simp only [RelL]
    exact ⟨c, r, rfl, ih1 k1, by rw [← e'] at k3; exact k3⟩
theorem Wk.relL {l l' : List AV} (h : Wk (.agg l) (.agg l')) {m : Ghost} {cs : List Value} (k : RelL m l cs) : RelL m l' cs := by
  have := h.rel (u := .agg cs.toArray) (by simp only [Rel]; exact ⟨_, rfl, k⟩)
  simp only [Rel] at this
  obtain ⟨cs', e, k'⟩ := this
  injection e with e
  rw [← e] at k'; exact k'
theorem ACalls.args {P : Program} {f : FuncId} {vs vs' : List AV} {h : Heap} {Q : AV → Heap → Prop} (hw : Wk (.agg vs) (.agg vs')) (k : ACalls P f vs' h Q) : ACalls P f vs h Q :=
  fun m w us h1 h2 h3 => k m w us h1 (hw.relL h2) h3
theorem ACalls.wk {P : Program} {f : FuncId} {args : List AV} {h : Heap} {Q Q' : AV → Heap → Prop} (k : ACalls P f args h Q) (hq : ∀ r h', Q r h' → ∃ r', Wk r r' ∧ Q' r' h') : ACalls P f args h Q' :=
  fun m w vs h1 h2 h3 => (k m w vs h1 h2 h3).mono fun e w' ⟨m', v, r, h', g1, g2, g3, g4, g5, g6, g7, g8⟩ => by
    obtain ⟨r', q1, q2⟩ := hq _ _ g8
    exact ⟨m', v, r', h', g1, g2, g3, g4, q1.rel g5, g6, g7, q2⟩
inductive LeT (t : List (Nat × AV)) : List (Nat × AV) → Prop
  | nil : LeT t []
  | cons {i : Nat} {v : AV} {r : List (Nat × AV)} (h : get t i = some v) (hr : LeT t r) : LeT t ((i, v) :: r)
  | consw {i : Nat} {v v' : AV} {r : List (Nat × AV)} (h : get t i = some v) (hw : Wk v v') (hr : LeT t r) : LeT t ((i, v') :: r)
  | refl : LeT t t
inductive Tk : Heap → OE → Heap → Prop
  | here {x : OE} {r : Heap} : Tk (x :: r) x r
  | there {x y : OE} {r r' : Heap} (h : Tk r x r') : Tk (y :: r) x (y :: r')
theorem tkG (hf : False) {x : OE} {r : Heap} : Tk [] x r := hf.elim
inductive LeH : Heap → Heap → Prop
  | refl (h : Heap) : LeH h h
  | nil (h : Heap) : LeH h []
  | skip {x : OE} {h h' : Heap} (k : LeH h h') : LeH (x :: h) h'
  | cons {x : OE} {h r h' : Heap} (t : Tk h x r) (k : LeH r h') : LeH h (x :: h')
  | boxw {b ty : Nat} {l l' : List AV} {h r h' : Heap} (t : Tk h (.box b l ty) r) (hw : Wk (.agg l) (.agg l')) (k : LeH r h') : LeH h (.box b l' ty :: h')
  | mapp {b : Nat} {x y : List (Value × AV)} {h r h' : Heap} (t : Tk h (.mp b (x.map (·.1)) (x.map (·.2))) r) (hp : x.Perm y) (k : LeH r h') : LeH h (.mp b (y.map (·.1)) (y.map (·.2)) :: h')
theorem Tk.perm {h r : Heap} {x : OE} (t : Tk h x r) : (x :: r).Perm h := by
  induction t with
  | here => exact .refl _
  | there _ ih => exact (List.Perm.swap _ _ _).trans (ih.cons _)
theorem LeT.spec {t r : List (Nat × AV)} (h : LeT t r) : ∀ i v, get r i = some v → ∃ u, get t i = some u ∧ Wk u v := by
  induction h with
  | nil => intro i v h; cases h
  | @cons k x r h _ ih =>
    intro i v hv
    rw [get_eq] at hv
    by_cases hk : k = i
    · subst hk
      rw [if_pos rfl] at hv
      injection hv with hv
      subst hv
      exact ⟨_, h, .refl _⟩
    · rw [if_neg hk] at hv
      exact ih i v hv
  | @consw k x y r h hw _ ih =>
    intro i v hv
    rw [get_eq] at hv
    by_cases hk : k = i
    · subst hk
      rw [if_pos rfl] at hv
      injection hv with hv
      subst hv
      exact ⟨_, h, hw⟩
    · rw [if_neg hk] at hv
      exact ih i v hv
  | refl => exact fun i v h => ⟨v, h, .refl _⟩
theorem HRel.sub {m : Ghost} {h h' : Heap} {w : World} (k : HRel m h w) (hs : h'.Sublist h) : HRel m h' w :=
  ⟨(hs.filterMap _).nodup k.1, fun x hx => k.2 x (hs.subset hx)⟩
theorem HRel.perm {m : Ghost} {h h' : Heap} {w : World} (k : HRel m h w) (hs : h'.Perm h) : HRel m h' w :=
  ⟨(hs.filterMap _).nodup_iff.2 k.1, fun x hx => k.2 x (hs.subset hx)⟩
theorem LeH.mem {h h' : Heap} (hl : LeH h h') : ∀ {x : OE}, x ∈ h' → ∃ y ∈ h, y.blk = x.blk := by
  induction hl with
  | refl => exact fun {x} hx => ⟨x, hx, rfl⟩
  | nil => intro x hx; simp at hx
  | skip _ ih => intro x hx; obtain ⟨y, h1, h2⟩ := ih hx; exact ⟨y, .tail _ h1, h2⟩
  | cons t _ ih =>
    intro x hx
    rcases List.mem_cons.1 hx with rfl | hx
    · exact ⟨_, t.perm.subset (.head _), rfl⟩
    · obtain ⟨y, h1, h2⟩ := ih hx; exact ⟨y, t.perm.subset (.tail _ h1), h2⟩
  | boxw t _ _ ih =>
    intro x hx
    rcases List.mem_cons.1 hx with rfl | hx
    · exact ⟨_, t.perm.subset (.head _), rfl⟩
    · obtain ⟨y, h1, h2⟩ := ih hx; exact ⟨y, t.perm.subset (.tail _ h1), h2⟩
  | mapp t _ _ ih =>
    intro x hx
    rcases List.mem_cons.1 hx with rfl | hx
    · exact ⟨_, t.perm.subset (.head _), rfl⟩
    · obtain ⟨y, h1, h2⟩ := ih hx; exact ⟨y, t.perm.subset (.tail _ h1), h2⟩
theorem HRel.tail {m : Ghost} {x : OE} {h : Heap} {w : World} (k : HRel m (x :: h) w) : HRel m h w :=
  ⟨((List.sublist_cons_self x h).filterMap _).nodup k.1, fun y hy => k.2 y (.tail _ hy)⟩
theorem HRel.put {m : Ghost} {x y : OE} {h h' : Heap} {w : World} (k : HRel m (x :: h) w) (k' : HRel m h' w) (hb : y.blk = x.blk) (hy : (∀ b, y.blk = some b → m b = none) ∧ OERel m w y) (hm : ∀ {z : OE}, z ∈ h' → ∃ z' ∈ h, z'.blk = z.blk) : HRel m (y :: h') w := by
  refine ⟨?_, fun z hz => ?_⟩
  · cases e : y.blk with
    | none => rw [List.filterMap_cons_none e]; exact k'.1
    | some b =>
      rw [List.filterMap_cons_some e, List.nodup_cons]
      refine ⟨fun hmem => ?_, k'.1⟩
      obtain ⟨z, hz, e2⟩ := List.mem_filterMap.1 hmem
      obtain ⟨z', h1, h2⟩ := hm hz
      have h3 := k.1
      rw [List.filterMap_cons_some (hb.symm.trans e), List.nodup_cons] at h3
      exact h3.1 (List.mem_filterMap.2 ⟨z', h1, h2.trans e2⟩)
  · rcases List.mem_cons.1 hz with rfl | hz
    · exact hy
    · exact k'.2 z hz
theorem LeH.hrel {m : Ghost} {h h' : Heap} {w : World} (k : HRel m h w) (hl : LeH h h') : HRel m h' w := by
  induction hl with
  | refl => exact k
  | nil => exact ⟨by simp, fun x hx => by simp at hx⟩
  | skip _ ih => exact ih k.tail
  | cons t l ih =>
    have k1 := k.perm t.perm
    exact k1.put (ih k1.tail) rfl (k1.2 _ (.head _)) l.mem
  | boxw t hw l ih =>
    have k1 := k.perm t.perm
    refine k1.put (ih k1.tail) rfl ⟨(k1.2 _ (.head _)).1, ?_⟩ l.mem
    have := (k1.2 _ (.head _)).2
    simp only [OERel] at this ⊢
    obtain ⟨cs, q1, q2⟩ := this
    exact ⟨cs, q1, hw.relL q2⟩
  | mapp t hp l ih =>
    have k1 := k.perm t.perm
    refine k1.put (ih k1.tail) rfl ⟨(k1.2 _ (.head _)).1, ?_⟩ l.mem
    have := (k1.2 _ (.head _)).2
    simp only [OERel] at this ⊢
    obtain ⟨es, clk, es', q0, q1, q2, q3⟩ := this
    obtain ⟨es2, r1, r2, r3⟩ := entries_perm hp q2 q3
    exact ⟨es, clk, es2, q0, q1.perm r1, r2, r3⟩
structure Le (s s' : St) : Prop where
  n : s'.n = s.n
  t : LeT s.t s'.t
  h : LeH s.h s'.h
theorem Sim.le {m0 : GF} {w0 : World} {s' : St} {a : Act} {w : World} (h : Sim m0 w0 s a w) (k : Le s s') : Sim m0 w0 s' a w := by
  obtain ⟨m, hm⟩ := h
  exact ⟨m, { hm with size := hm.size.trans k.n.symm, tmps := fun i v e => by obtain ⟨u, e1, e2⟩ := k.t.spec i v e; obtain ⟨c, q1, q2⟩ := hm.tmps i u e1; exact ⟨c, q1, e2.rel q2⟩, heap := k.h.hrel hm.heap, own := fun x hx b hb => by obtain ⟨y, h1, h2⟩ := k.h.mem hx; exact hm.own y h1 b (h2.trans hb) }⟩
theorem W.le {c : Code} {s' : St} (k : Le s s') (h : W P c Q s') : W P c Q s := fun m0 w0 a w hs => h m0 w0 a w (hs.le k)
theorem RL.le {s' : St} (k : Le s s') (h : RL P ops rest s' K) : RL P ops rest s K := fun i hi m0 w0 a w hs => h i hi m0 w0 a w (hs.le k)
/-! ### Loops -/
theorem W.loop {X : Type} {c : Code} (J : X → St) (Φ : X → Prop) (μ : X → Nat) (x0 : X) (h0 : Le s (J x0)) (h1 : Φ x0)
    (round : ∀ x, Φ x → W P c (Then (fun s' => ∃ x', Φ x' ∧ Le s' (J x') ∧ μ x' < μ x) Q) (J x)) : W P (.loop c) Q s := by
  intro m0 w0 a w hs b k cs
  have key : ∀ n x a w, μ x = n → Φ x → Sim m0 w0 (J x) a w →
      ∃ e a' w', (∃ s', Q e s' ∧ Sim m0 w0 s' a' w') ∧ Arrives P (lone (b.at a (.code c :: .inLoop c :: k)) cs w) b k cs e a' w' := by
    intro n
    induction n using Nat.strongRecOn with
    | _ n ih =>
      intro x a w hn hx hI
      obtain ⟨e, a₁, w₁, ⟨s₁, hq, hs₁⟩, harr⟩ := round x hx m0 w0 a w hI b (.inLoop c :: k) cs
      cases e with
      | normal =>
        obtain ⟨x', hx', hle, hlt⟩ := hq
        obtain ⟨e₂, a₂, w₂, hq₂, harr₂⟩ := ih (μ x') (hn ▸ hlt) x' a₁ w₁ rfl hx' (hs₁.le hle)
        exact ⟨e₂, a₂, w₂, hq₂, .of_steps (Steps.trans harr (.one step_inLoop)) harr₂⟩
      | exit id => exact ⟨_, a₁, w₁, ⟨s₁, hq, hs₁⟩, .pass (x := .inLoop c) rfl (fun _ _ => .inl (by simp)) harr⟩
      | goto l => exact ⟨_, a₁, w₁, ⟨s₁, hq, hs₁⟩, .pass (x := .inLoop c) rfl (fun _ _ => .inl (by simp)) harr⟩
      | ret => exact ⟨_, a₁, w₁, ⟨s₁, hq, hs₁⟩, .pass (x := .inLoop c) rfl (fun _ _ => .inl (by simp)) harr⟩
      | panic ch => exact ⟨_, a₁, w₁, ⟨s₁, hq, hs₁⟩, .pass (x := .inLoop c) rfl (fun _ _ => .inl (by simp)) harr⟩
      | outgrown => exact ⟨_, a₁, w₁, ⟨s₁, hq, hs₁⟩, .pass (x := .inLoop c) rfl (fun _ _ => .inl (by simp)) harr⟩
  obtain ⟨e, a', w', hq, harr⟩ := key _ x0 a w rfl h1 (hs.le h0)
  exact ⟨e, a', w', hq, .of_steps (.one step_loop) harr⟩
end
end Go.VM
