import Derived.WalkKit
import Derived.WalkSpells
import Derived.Below
import Derived.Lib.Hide
import Derived.Deep.QuietTactic
import Derived.BigQuiet
import Derived.Laws.CopyOwn
import Derived.Maps.AppendAt
import Derived.Deep.AppendLies
namespace Go.Proofs.Ytlnpelohdamklaa
open Go.RowKit
set_option linter.unusedVariables false
set_option linter.unusedSimpArgs false

theorem block_of_add (a : Addr) (n : Nat) : (a.add n).block = a.block := by unfold Addr.add; split <;> rfl
theorem add_of_add (a : Addr) (i j : Nat) : (a.add i).add j = a.add (i + j) := by
  unfold Addr.add
  by_cases hi : i = 0 <;> by_cases hj : j = 0 <;> simp [hi, hj, Nat.add_assoc]
theorem add_mk (b off i : Nat) : (⟨b, off, none⟩ : Addr).add i = ⟨b, off + i, none⟩ := by unfold Addr.add; split <;> simp_all
theorem spot_none {w : World} {ad : Addr} {v : Value} (h : w.cell? ad = some v) : ad.spot = none := by
  unfold World.cell? at h
  split at h
  · split at h
    · cases h
    · simp_all
  · cases h

/-! ### Footprints: which blocks a datum may lie in -/
abbrev Foot := Nat → Prop
/-- F, and all blocks from n on. -/
def up (F : Foot) (n : Nat) : Foot := fun b => F b ∨ n ≤ b
/-- F, below n. -/
def lo (F : Foot) (n : Nat) : Foot := fun b => F b ∧ b < n
/-- Two worlds hold the same in F. -/
def Agree (F : Foot) (w w' : World) : Prop := w.heap.size ≤ w'.heap.size ∧ ∀ b, F b → b < w.heap.size → w'.heap[b]? = w.heap[b]?
theorem Agree.of_below {F : Foot} {B : Nat} {w w' : World} (hb : Below B w w') (hB : w.heap.size ≤ B) : Agree F w w' := ⟨hb.size, fun b _ h => hb.block b (by omega)⟩
theorem Agree.cell {F : Foot} {w w' : World} (h : Agree F w w') {p : Addr} (hF : F p.block) (hp : p.block < w.heap.size) : w'.cell? p = w.cell? p := World.cell?_of_block (w := w) (h.2 _ hF hp)
theorem Agree.setCell {F : Foot} {w : World} {a : Addr} (v : Value) (h : ¬ F a.block) : Agree F w (w.setCell a v) :=
  ⟨by simp, fun b hb _ => Below.heap_setCell w a v b (fun e => h (e ▸ hb))⟩
theorem Agree.refl (F : Foot) (w : World) : Agree F w w := ⟨Nat.le_refl _, fun _ _ _ => rfl⟩
theorem Agree.trans {F : Foot} {a b c : World} (h : Agree F a b) (k : Agree F b c) : Agree F a c :=
  ⟨Nat.le_trans h.1 k.1, fun x hx hl => (k.2 x hx (Nat.lt_of_lt_of_le hl h.1)).trans (h.2 x hx hl)⟩
theorem Agree.grown {F : Foot} {w w' : World} {row : Option Nat} (h : w.grownBy w' row) (hr : ∀ k, row = some k → ¬ F k) : Agree F w w' :=
  ⟨h.size, fun b hb hl => h.block b hl (fun e => hr b e.symm hb)⟩
theorem Agree.alloc {F : Foot} (w : World) (o : Obj) : Agree F w (w.alloc o) := ⟨by simp, fun b _ hl => Below.heap_alloc w o b hl⟩
theorem Agree.drew {F : Foot} (w : World) : Agree F w w.drew := ⟨Nat.le_refl _, fun _ _ _ => rfl⟩
theorem Agree.drewN {F : Foot} (w : World) (n : Nat) : Agree F w (w.drewN n) := ⟨Nat.le_refl _, fun _ _ _ => rfl⟩

/-- The slice value v of n elements, each of 'size' cells, reads as the cells xs; it lies in F. -/
def Sl (F : Foot) (w : World) (size : Nat) (v : Value) (n : Nat) (xs : List Value) : Prop :=
  ∃ A c, v = .slice A n c ∧ n ≤ c ∧ c ≤ maxLen ∧ xs.length = n * size ∧ (A = none → c = 0) ∧
    (0 < n → ∃ ad, A = some ad ∧ ad.block < w.heap.size ∧ F ad.block ∧ ∀ j u, xs[j]? = some u → w.cell? (ad.add j) = some u)

section
variable {F G : Foot} {w w' : World} {size n : Nat} {v : Value} {xs : List Value}
theorem Sl.nil_ : Sl F w size (.slice none 0 0) 0 [] := ⟨none, 0, rfl, Nat.le_refl _, Nat.zero_le _, by simp, fun _ => rfl, fun h => absurd h (Nat.lt_irrefl _)⟩
theorem Sl.empty_ {c : Nat} (ad : Addr) (hc : c ≤ maxLen) : Sl F w size (.slice (some ad) 0 c) 0 [] :=
  ⟨_, c, rfl, Nat.zero_le _, hc, by simp, fun h => (by cases h), fun h => absurd h (Nat.lt_irrefl _)⟩
theorem Sl.agree (h : Sl F w size v n xs) (hk : Agree F w w') : Sl F w' size v n xs := by
  obtain ⟨A, c, e, h1, h2, h3, h4, h5⟩ := h
  refine ⟨A, c, e, h1, h2, h3, h4, fun hn => ?_⟩
  obtain ⟨ad, ha, hb, hF, hc⟩ := h5 hn
  exact ⟨ad, ha, Nat.lt_of_lt_of_le hb hk.1, hF, fun j u hu => (hk.cell (by rw [block_of_add]; exact hF) (by rw [block_of_add]; exact hb)).trans (hc j u hu)⟩
theorem Sl.below {B : Nat} (h : Sl F w size v n xs) (hb : Below B w w') (hB : w.heap.size ≤ B) : Sl F w' size v n xs := h.agree (.of_below hb hB)
theorem Sl.mono (h : Sl F w size v n xs) (hF : ∀ b, F b → b < w.heap.size → G b) : Sl G w size v n xs := by
  obtain ⟨A, c, e, h1, h2, h3, h4, h5⟩ := h
  refine ⟨A, c, e, h1, h2, h3, h4, fun hn => ?_⟩
  obtain ⟨ad, ha, hb, hF', hc⟩ := h5 hn
  exact ⟨ad, ha, hb, hF _ hF' hb, hc⟩
theorem Sl.of_own {base : Nat} {e : TypeId} (h : w.ownsRow base e size v n xs) (hF : ∀ b, v.ownBlock = some b → base ≤ b → F b) : Sl F w size v n xs := by
  obtain ⟨h1, h2⟩ := h
  rcases h2 with ⟨rfl, rfl⟩ | ⟨g, cap, cur, rfl, hb, hh, hc, hm, hz, ht⟩
  · exact ⟨none, 0, rfl, Nat.le_refl _, Nat.zero_le _, h1, fun _ => rfl, fun h => absurd h (Nat.lt_irrefl _)⟩
  · refine ⟨_, cap, rfl, hc, hm, h1, fun h => (by cases h), fun _ => ⟨_, rfl, (Array.getElem?_eq_some_iff.1 hh).1, hF _ rfl hb, ?_⟩⟩
    exact World.ownsRow.cells (g := g) (h := ⟨h1, .inr ⟨g, cap, cur, rfl, hb, hh, hc, hm, hz, ht⟩⟩) rfl
theorem Sl.shape (h : Sl F w size v n xs) : ∃ A c, v = .slice A n c ∧ n ≤ c ∧ c ≤ 9223372036854775807 := by
  obtain ⟨A, c, e, h1, h2, _⟩ := h
  exact ⟨A, c, e, h1, by simpa [maxLen] using h2⟩
/-- Of a slice of at least one element (each of at least one cell): its block, its place there. -/
theorem Sl.place (h : Sl F w size v n xs) (hn : 0 < n) (hs : 0 < size) :
    ∃ b off c, v = .slice (some ⟨b, off, none⟩) n c ∧ n ≤ c ∧ c ≤ maxLen ∧ b < w.heap.size ∧ F b ∧ ∀ j u, xs[j]? = some u → w.cell? ⟨b, off + j, none⟩ = some u := by
  obtain ⟨A, c, e, h1, h2, h3, h4, h5⟩ := h
  obtain ⟨ad, ha, hb, hF, hc⟩ := h5 hn
  have hl : 0 < xs.length := by rw [h3]; exact Nat.mul_pos hn hs
  have h0 := hc 0 xs[0] (List.getElem?_eq_getElem hl)
  obtain ⟨b, off, sp⟩ := ad
  have : sp = none := by simpa [Addr.add] using spot_none h0
  subst this
  exact ⟨b, off, c, by rw [e, ha], h1, h2, hb, hF, fun j u hu => by have := hc j u hu; rwa [add_mk] at this⟩
theorem Sl.new_at (w : World) (cs : Array Value) (e : TypeId) (size n H : Nat) (hH : w.heap.size = H) (h : cs.size = n * size) (hn : n ≤ maxLen) (hF : F H) :
    Sl F (w.alloc (.cells cs e)) size (.slice (some ⟨H, 0, none⟩) n n) n cs.toList := by
  subst hH
  refine ⟨_, n, rfl, Nat.le_refl _, hn, by simpa using h, fun h => (by cases h), fun _ => ⟨_, rfl, by simp, hF, fun j u hu => ?_⟩⟩
  rw [add_mk, Nat.zero_add, cell_of_row _ w.heap.size j cs e (0, 0) (heap_alloc_new w _)]
  simpa using hu
theorem Sl.new_drew (w : World) (cs : Array Value) (e : TypeId) (size n H : Nat) (hH : w.heap.size = H) (h : cs.size = n * size) (hn : n ≤ maxLen) (hF : F H) :
    Sl F (w.alloc (.cells cs e)).drew size (.slice (some ⟨H, 0, none⟩) n n) n cs.toList := Sl.new_at w cs e size n H hH h hn hF
theorem Sl.new_ (w : World) (cs : Array Value) (e : TypeId) (size n : Nat) (h : cs.size = n * size) (hn : n ≤ maxLen) :
    Sl (fun _ => True) (w.alloc (.cells cs e)) size (.slice (some ⟨w.heap.size, 0, none⟩) n n) n cs.toList := Sl.new_at w cs e size n _ rfl h hn trivial
end
/-- A list of integers of one kind, in a slice of one-cell elements. -/
def Ints (F : Foot) (w : World) (k : IntKind) (v : Value) (xs : List Int) : Prop := Sl F w 1 v xs.length (xs.map (.int k))
section
variable {F G : Foot} {w w' : World} {k : IntKind} {v : Value} {xs : List Int}
theorem Ints.below {B : Nat} (h : Ints F w k v xs) (hb : Below B w w') (hB : w.heap.size ≤ B) : Ints F w' k v xs := Sl.below h hb hB
theorem Ints.agree (h : Ints F w k v xs) (hk : Agree F w w') : Ints F w' k v xs := Sl.agree h hk
theorem Ints.mono (h : Ints F w k v xs) (hF : ∀ b, F b → b < w.heap.size → G b) : Ints G w k v xs := Sl.mono h hF
theorem Ints.zero_ : Ints F w k (.slice none 0 0) [] := Sl.nil_
theorem Ints.shape (h : Ints F w k v xs) : ∃ A c, v = .slice A xs.length c ∧ xs.length ≤ c ∧ c ≤ 9223372036854775807 := Sl.shape h
theorem own_ints {base e n : Nat} (h : w.ownsRow base e 1 v n (xs.map (.int k))) (hn : n = xs.length) (hF : ∀ b, v.ownBlock = some b → base ≤ b → F b) : Ints F w k v xs := by subst hn; exact Sl.of_own h hF
/-- What a walk opens: the address, the capacity, and each cell (its number under a name of its own). -/
theorem Ints.open_ (h : Ints F w k v xs) : ∃ A c, v = .slice A xs.length c ∧ xs.length ≤ c ∧ c ≤ 9223372036854775807 ∧ (A = none → c = 0) ∧
    ∀ i, i < xs.length → ∃ b off x, A = some ⟨b, off, none⟩ ∧ b < w.heap.size ∧ w.cell? ⟨b, off + i, none⟩ = some (.int k x) ∧ Hid (xs[i]? = some x) := by
  have h' := h
  obtain ⟨A, c, e, h1, h2, h3, h4, h5⟩ := h
  refine ⟨A, c, e, h1, by simpa [maxLen] using h2, h4, fun i hi => ?_⟩
  obtain ⟨b, off, c', e', _, _, hb, _, hc⟩ := Sl.place h' (by omega) (by omega)
  rw [e] at e'
  injection e' with e1 _ _
  refine ⟨b, off, xs[i], e1, hb, hc i _ ?_, show _ = _ from List.getElem?_eq_getElem hi⟩
  rw [List.getElem?_map, List.getElem?_eq_getElem hi]; rfl
theorem take_snoc {α : Type} {xs : List α} {k : Nat} {x : α} (h : Hid (xs[k]? = some x)) : xs.take (k + 1) = xs.take k ++ [x] := by
  have h := h.out
  rw [List.take_add_one, h]; rfl
theorem mem_of_at {α : Type} {xs : List α} {k : Nat} {x : α} (h : Hid (xs[k]? = some x)) : x ∈ xs := List.mem_of_getElem? h.out
end

/-- A slice of structs: each element's row of cells stands in relation R to its datum. -/
def SlOf {α : Type} (R : Foot → World → List Value → α → Prop) (F : Foot) (w : World) (size : Nat) (v : Value) (l : List α) : Prop :=
  ∃ css : List (List Value), css.length = l.length ∧ (∀ (i : Nat) (cs : List Value) (x : α), css[i]? = some cs → l[i]? = some x → cs.length = size ∧ R F w cs x) ∧ Sl F w size v l.length css.flatten
/-- R reads in its footprint alone. -/
def Mono {α : Type} (R : Foot → World → List Value → α → Prop) : Prop := ∀ (F : Foot) (w w' : World) cs x, R F w cs x → Agree F w w' → R F w' cs x
def MonoF {α : Type} (R : Foot → World → List Value → α → Prop) : Prop := ∀ (F G : Foot) (w : World) cs x, R F w cs x → (∀ b, F b → b < w.heap.size → G b) → R G w cs x
def OneC {α : Type} (R : Foot → World → List Value → α → Prop) : Prop := ∀ F w cs x, R F w cs x → ∀ y ∈ cs, y.oneCell' = true
theorem flatten_at {css : List (List Value)} {size : Nat} (h : ∀ cs ∈ css, cs.length = size) {i j : Nat} {cs : List Value} (hi : css[i]? = some cs) (hj : j < size) :
    css.flatten[i * size + j]? = cs[j]? := by
  induction css generalizing i with
  | nil => simp at hi
  | cons c r ih =>
    have hc : c.length = size := h c (by simp)
    cases i with
    | zero =>
      simp at hi; subst hi
      rw [List.flatten_cons, Nat.zero_mul, Nat.zero_add, List.getElem?_append_left (by omega)]
    | succ i =>
      rw [List.flatten_cons, List.getElem?_append_right (by rw [hc, Nat.succ_mul]; omega), hc]
      have : (i + 1) * size + j - size = i * size + j := by rw [Nat.succ_mul]; omega
      rw [this]
      exact ih (fun cs hcs => h cs (by simp [hcs])) (by simpa using hi)
theorem length_flatten_of {css : List (List Value)} {size : Nat} (h : ∀ cs ∈ css, cs.length = size) : css.flatten.length = css.length * size := by
  induction css with
  | nil => simp
  | cons c r ih => rw [List.flatten_cons, List.length_append, h c (by simp), ih (fun cs hcs => h cs (by simp [hcs])), List.length_cons, Nat.succ_mul]; omega
theorem rows_len {α : Type} {css : List (List Value)} {l : List α} {size : Nat} {R : List Value → α → Prop} (h1 : css.length = l.length) (h2 : ∀ (i : Nat) (cs : List Value) (x : α), css[i]? = some cs → l[i]? = some x → cs.length = size ∧ R cs x) : ∀ cs ∈ css, cs.length = size := by
  intro cs hm
  obtain ⟨q, hq, rfl⟩ := List.getElem_of_mem hm
  exact (h2 q _ _ (List.getElem?_eq_getElem hq) (List.getElem?_eq_getElem (by omega : q < l.length))).1
section
variable {α : Type} {R : Foot → World → List Value → α → Prop} {F G : Foot} {w w' : World} {size : Nat} {v : Value} {l : List α}
theorem SlOf.agree (hR : Mono R) (h : SlOf R F w size v l) (hk : Agree F w w') : SlOf R F w' size v l := by
  obtain ⟨css, h1, h2, h3⟩ := h
  exact ⟨css, h1, fun i cs x hc hx => ⟨(h2 i cs x hc hx).1, hR _ _ _ _ _ (h2 i cs x hc hx).2 hk⟩, h3.agree hk⟩
theorem SlOf.below (hR : Mono R) {B : Nat} (h : SlOf R F w size v l) (hb : Below B w w') (hB : w.heap.size ≤ B) : SlOf R F w' size v l := h.agree hR (.of_below hb hB)
theorem SlOf.mono (hR : MonoF R) (h : SlOf R F w size v l) (hF : ∀ b, F b → b < w.heap.size → G b) : SlOf R G w size v l := by
  obtain ⟨css, h1, h2, h3⟩ := h
  exact ⟨css, h1, fun i cs x hc hx => ⟨(h2 i cs x hc hx).1, hR _ _ _ _ _ (h2 i cs x hc hx).2 hF⟩, h3.mono hF⟩
theorem SlOf.shape (h : SlOf R F w size v l) : ∃ A c, v = .slice A l.length c ∧ l.length ≤ c ∧ c ≤ 9223372036854775807 := by
  obtain ⟨_, _, _, h⟩ := h
  exact Sl.shape h
theorem SlOf.nil_ : SlOf R F w size (.slice none 0 0) ([] : List α) := ⟨[], rfl, fun i cs x hc _ => by simp at hc, Sl.nil_⟩
theorem SlOf.open_ (hs : 0 < size) (h : SlOf R F w size v l) : ∃ A c, v = .slice A l.length c ∧ l.length ≤ c ∧ c ≤ 9223372036854775807 ∧ (A = none → c = 0) ∧
    ∀ i, i < l.length → ∃ b off cs x, A = some ⟨b, off, none⟩ ∧ b < w.heap.size ∧ cs.length = size ∧ R F w cs x ∧ Hid (l[i]? = some x) ∧ ∀ j, j < size → w.cell? ⟨b, off + (i * size + j), none⟩ = cs[j]? := by
  obtain ⟨css, h1, h2, h3⟩ := h
  have h3' := h3
  obtain ⟨A, c, e, g1, g2, g3, g4, g5⟩ := h3
  refine ⟨A, c, e, g1, by simpa [maxLen] using g2, g4, fun i hi => ?_⟩
  obtain ⟨b, off, c', e', _, _, hb, _, hc⟩ := Sl.place h3' (by omega) hs
  rw [e] at e'
  injection e' with e1 _ _
  have hic : i < css.length := by omega
  have hcs : css[i]? = some css[i] := List.getElem?_eq_getElem hic
  have hl : l[i]? = some l[i] := List.getElem?_eq_getElem hi
  obtain ⟨k1, k2⟩ := h2 i _ _ hcs hl
  refine ⟨b, off, css[i], l[i], e1, hb, k1, k2, (show _ = _ from hl), fun j hj => ?_⟩
  have hf := flatten_at (rows_len h1 h2) hcs hj
  rw [List.getElem?_eq_getElem (by omega : j < css[i].length)] at hf ⊢
  exact hc _ _ hf
end

/-! ### Slice types, and make, append, copy as laws of the walk -/
/-- Type t is a slice type of elements e, each of 'size' cells and 'bytes' bytes, with zero value z. -/
structure STy (P : Program) (t e size bytes : Nat) (z : Value) : Prop where
  ht : P.underlying t = some (.slice e)
  hi : (P.info? e).map (fun i => (i.zero, i.size, i.bytes)) = some (some z, size, bytes)
  hzs : z.cells.size = size
  hsz : 0 < size

section
variable {P : Program} {w : World} {ops : Array Oper} {rest : List Oper} {o : Oper} {a : Act} {Q : Exit → Act → World → Prop} {F : Foot}

theorem run_append_sl {t ty e size bytes : Nat} {z : Value} (T : STy P t e size bytes z) (base : Nat) (v : Value) (n : Nat) (xs : List Value) (hown : w.ownsRow base e size v n xs)
    (u : Value) (m : Nat) (ys : List Value) (hy : Sl F w size u m ys) (h1 : ∀ y ∈ ys, y.oneCell' = true) (h63 : n + m ≤ maxLen) (hb : (n + m) * bytes ≤ 140737488355328) (hbase : base ≤ w.heap.size) :
    ∃ v' w', (Builtin.append_ #[t, t] ty #[v, u]).run P w = .ok v' w' ∧ w'.ownsRow base e size v' (n + m) (xs ++ ys) ∧ w.grownBy w' v.ownBlock ∧ (v'.ownBlock = v.ownBlock ∨ v'.ownBlock = some w.heap.size) := by
  obtain ⟨i, hi, hz, hsize, hby⟩ := info_parts T.hi
  obtain ⟨A, c, rfl, g1, g2, g3, g4, g5⟩ := hy
  rcases A with _ | ad
  · obtain rfl := g4 rfl
    obtain rfl : m = 0 := by omega
    obtain rfl : ys = [] := List.eq_nil_of_length_eq_zero (by simpa using g3)
    refine ⟨v, w, ?_, by simpa using hown, ⟨rfl, rfl, rfl, Nat.le_refl _, fun _ _ _ => rfl⟩, .inl rfl⟩
    exact run_append_owned_none (P := P) w base t ty e i size T.ht hi v n xs hown
  · have hc : ∀ j u, ys[j]? = some u → w.cell? (ad.add j) = some u := by
      intro j u hu
      have hl : 0 < m := by
        rcases Nat.eq_zero_or_pos m with h | h
        · subst h
          have : ys = [] := List.eq_nil_of_length_eq_zero (by simpa using g3)
          subst this; simp at hu
        · exact h
      obtain ⟨ad', e1, _, _, h⟩ := g5 hl
      injection e1 with e1; subst e1
      exact h j u hu
    obtain ⟨v', w', hr, h2, h3, _, h4⟩ := run_append_own_at (P := P) w base t ty e i z size bytes T.ht hi hz hsize hby T.hzs T.hsz v n xs hown ad m c ys g3 hc h1 h63 hb hbase
    exact ⟨v', w', hr, h2, h3, h4⟩

theorem wp_append_ (s x : Operand) (t : Nat) (ho : o.op = .call { callee := .builtin .append, args := #[s, x], argTypes := #[t, t] }) {K : Act → World → Prop}
    {e size bytes : Nat} {z : Value} (T : STy P t e size bytes z) (base : Nat) (v : Value) (n : Nat) (xs : List Value) (hs : a.eval s = v) (hown : w.ownsRow base e size v n xs)
    (u : Value) (m : Nat) (ys : List Value) (hx : a.eval x = u) (hy : Sl F w size u m ys) (h1 : ∀ y ∈ ys, y.oneCell' = true) (h63 : n + m ≤ maxLen) (hb : (n + m) * bytes ≤ 140737488355328) (hbase : base ≤ w.heap.size)
    (h : ∀ v' w', w'.ownsRow base e size v' (n + m) (xs ++ ys) → w.grownBy w' v.ownBlock → (v'.ownBlock = v.ownBlock ∨ v'.ownBlock = some w.heap.size) → K (a.put o.dst v') w') : o.wp P a w K Q := by
  obtain ⟨v', w', hr, h2, h3, h4⟩ := run_append_sl (ty := o.type) T base v n xs hown u m ys hy h1 h63 hb hbase
  unfold Oper.wp execOp
  simp only [ho, resolve, invoke, builtin, Sem.run_bind, Sem.run_pure, Result.andThen_ok, List.map_toArray, List.map_cons, List.map_nil, hs, hx, hr]
  exact h v' w' h2 h3 h4

theorem wpL_append (hg : o.guard = none) (s x : Operand) (t : Nat) (ho : o.op = .call { callee := .builtin .append, args := #[s, x], argTypes := #[t, t] })
    {e size bytes : Nat} {z : Value} (T : STy P t e size bytes z) (base : Nat) (v : Value) (n : Nat) (xs : List Value) (hs : a.eval s = v) (hown : w.ownsRow base e size v n xs)
    (u : Value) (m : Nat) (ys : List Value) (hx : a.eval x = u) (hy : Sl F w size u m ys) (h1 : ∀ y ∈ ys, y.oneCell' = true) (h63 : n + m ≤ maxLen) (hb : (n + m) * bytes ≤ 140737488355328) (hbase : base ≤ w.heap.size)
    (h : ∀ v' w', w'.ownsRow base e size v' (n + m) (xs ++ ys) → w.grownBy w' v.ownBlock → (v'.ownBlock = v.ownBlock ∨ v'.ownBlock = some w.heap.size) → wpList P ops Q rest (a.put o.dst v') w') : wpList P ops Q (o :: rest) a w :=
  wpList_plain hg fun _ hK => wp_append_ s x t ho T base v n xs hs hown u m ys hx hy h1 h63 hb hbase fun v' w' h2 h3 h4 => hK _ _ (h v' w' h2 h3 h4)

theorem step_append_ {K : Act → World → Prop} {E : Prop} (hg : o.guard = none) (s x : Operand) (t : Nat) (ho : o.op = .call { callee := .builtin .append, args := #[s, x], argTypes := #[t, t] })
    {e size bytes : Nat} {z : Value} (T : STy P t e size bytes z) (base : Nat) (v : Value) (n : Nat) (xs : List Value) (hs : a.eval s = v) (hown : w.ownsRow base e size v n xs)
    (u : Value) (m : Nat) (ys : List Value) (hx : a.eval x = u) (hy : Sl F w size u m ys) (h1 : ∀ y ∈ ys, y.oneCell' = true) (h63 : n + m ≤ maxLen) (hb : (n + m) * bytes ≤ 140737488355328) (hbase : base ≤ w.heap.size)
    (h : ∀ v' w', w'.ownsRow base e size v' (n + m) (xs ++ ys) → w.grownBy w' v.ownBlock → (v'.ownBlock = v.ownBlock ∨ v'.ownBlock = some w.heap.size) → K (a.put o.dst v') w') :
    if Region.wanted o (yielded ops a.tmps) = true then Oper.wp P o a w K Q else E := by
  have hw : Region.wanted o (yielded ops a.tmps) = true := by simp [Region.wanted, hg]
  rw [if_pos hw]
  exact wp_append_ s x t ho T base v n xs hs hown u m ys hx hy h1 h63 hb hbase h

theorem wpL_make (hg : o.guard = none) (l c : Operand) (t : Nat) (ho : o.op = Op.makeSlice t l c) {e size bytes : Nat} {z : Value} (T : STy P t e size bytes z)
    (L : Int) (n : Nat) (hl : a.eval l = .int .i64 L) (hc : a.eval c = .int .i64 L) (hL : L = (n : Int)) (b2 : bytes * n ≤ 281474976710656) (b3 : n ≤ maxLen)
    (h : ∀ w', w'.ownsRow w.heap.size e size (.slice (some ⟨w.heap.size, 0, none⟩) n n) n (madeCells z.cells (n * size)).toList → Below w.heap.size w w' → wpList P ops Q rest (a.put o.dst (.slice (some ⟨w.heap.size, 0, none⟩) n n)) w') :
    wpList P ops Q (o :: rest) a w := by
  obtain ⟨i, hi, hz, hsize, hby⟩ := info_parts T.hi
  refine wpList_make_full w hg l c t ho w.heap.size e i z size T.ht hi hz hsize .i64 .i64 L L n hl hc hL hL (by rw [hby]; exact b2) b3 (Nat.le_refl _) fun w' h1 h2 => h w' h1 ?_
  exact (Below.refl _ _).grown h2 (Nat.le_refl _) (fun k hk => by cases hk)

/-- make([]T, 0, n): a row with room, nothing owned yet. -/
theorem wpL_make0 (hg : o.guard = none) (l c : Operand) (t : Nat) (ho : o.op = Op.makeSlice t l c) {e size bytes : Nat} {z : Value} (T : STy P t e size bytes z)
    (C : Int) (n : Nat) (hl : a.eval l = .int .i64 0) (hc : a.eval c = .int .i64 C) (hC : C = (n : Int)) (b2 : bytes * n ≤ 281474976710656) (b3 : n ≤ maxLen)
    (h : ∀ w', w'.ownsRow w.heap.size e size (.slice (some ⟨w.heap.size, 0, none⟩) 0 n) 0 [] → Below w.heap.size w w' → wpList P ops Q rest (a.put o.dst (.slice (some ⟨w.heap.size, 0, none⟩) 0 n)) w') :
    wpList P ops Q (o :: rest) a w := by
  obtain ⟨i, hi, hz, hsize, hby⟩ := info_parts T.hi
  refine wpList_make_own w hg l c t ho w.heap.size e i z size T.ht hi hz hsize .i64 .i64 C n hl hc hC (by rw [hby]; exact b2) b3 (Nat.le_refl _) fun w' h1 h2 => h w' h1 ?_
  exact (Below.refl _ _).grown h2 (Nat.le_refl _) (fun k hk => by cases hk)

theorem wpL_copy (hg : o.guard = none) (d s : Operand) (dT sT : Nat)
    (ho : o.op = .call { callee := .builtin .copy, args := #[d, s], argTypes := #[dT, sT] }) {e bytes : Nat} {z : Value} (T : STy P dT e 1 bytes z)
    (dp : Option Addr) (dLen dCap : Nat) (hd : a.eval d = .slice dp dLen dCap) (u : Value) (m : Nat) (ys : List Value) (hx : a.eval s = u) (hy : Sl F w 1 u m ys) (hle : m ≤ dLen)
    (g off : Nat) (cur : List Value) (t : TypeId) (hc : w.heap[g]? = some (.cells cur.toArray t (0, 0))) (hpos : 0 < m → dp = some ⟨g, off, none⟩) (hfit : off + m ≤ cur.length) (h1 : ∀ y ∈ ys, y.oneCell' = true)
    (h : ∀ w', Hid (w'.heap[g]? = some (.cells (splice cur off ys).toArray t (0, 0))) → Below g w w' → wpList P ops Q rest (a.put o.dst (.int .i64 m)) w') : wpList P ops Q (o :: rest) a w := by
  obtain ⟨A, c, rfl, g1, g2, g3, g4, g5⟩ := hy
  have hl : ys.length = m := by simpa using g3
  obtain ⟨i, hi, _, hsize, _⟩ := info_parts T.hi
  refine wpList_copy_splice hg d s dT sT ho e T.ht (by simp [hi, hsize]) dp A dLen dCap m c hd hx g off cur t hc ys (by rw [hl]; exact (Nat.min_eq_left hle).symm) (fun hp => ⟨hpos (by omega), ?_⟩) (by omega) h1 g w (Below.refl _ _) (Nat.le_refl _) ?_
  · obtain ⟨ad, e1, _, _, e2⟩ := g5 (by omega)
    exact ⟨ad, e1, e2⟩
  · intro w' k1 k2
    have := h w' k1 k2
    rw [← hl] at this
    exact this
end
theorem oneCell_ints (k : IntKind) (xs : List Int) : ∀ y ∈ xs.map (Value.int k), y.oneCell' = true := by
  intro y hy
  obtain ⟨x, _, rfl⟩ := List.mem_map.1 hy
  rfl

/-! ### Rows of the call's own -/
section
variable {w w' : World} {base e size n g cap B : Nat} {v u : Value} {xs : List Value}
/-- A row of the call's own that is full: its block, whole. -/
theorem own_heap (h : w.ownsRow base e size (.slice (some ⟨g, 0, none⟩) n n) n xs) : w.heap[g]? = some (.cells xs.toArray e (0, 0)) := by
  obtain ⟨h1, h2⟩ := h
  rcases h2 with ⟨h2, _⟩ | ⟨g', cap, cur, hv, _, hh, _, _, hz, ht⟩
  · cases h2
  · injection hv with hv _ hc
    injection hv with hv
    injection hv with hg
    subst hg; subst hc
    rw [hh, ← ht, List.take_of_length_le (by simp [hz])]
/-- A block that is known whole, from its head on, as a row of the call's own. -/
theorem own_of_heap (h : w.heap[g]? = some (.cells xs.toArray e (0, 0))) (hl : xs.length = n * size) (hb : base ≤ g) (hn : n ≤ maxLen) :
    w.ownsRow base e size (.slice (some ⟨g, 0, none⟩) n n) n xs :=
  ⟨hl, .inr ⟨g, n, xs.toArray, rfl, hb, h, Nat.le_refl _, hn, by simpa using hl, by simp [← hl]⟩⟩
theorem own_below (h : w.ownsRow base e size v n xs) (hb : Below B w w') (hB : w.heap.size ≤ B) : w'.ownsRow base e size v n xs := by
  obtain ⟨h1, h2⟩ := h
  refine ⟨h1, ?_⟩
  rcases h2 with h2 | ⟨g, cap, cur, hv, hg, hh, r⟩
  · exact Or.inl h2
  · have hlt := (Array.getElem?_eq_some_iff.1 hh).1
    exact Or.inr ⟨g, cap, cur, hv, hg, (hb.block g (by omega)).trans hh, r⟩
theorem own_drew (h : w.ownsRow base e size v n xs) : w.drew.ownsRow base e size v n xs := h
theorem own_base {base' : Nat} (h : w.ownsRow base e size v n xs) (hb : base' ≤ base) : w.ownsRow base' e size v n xs := by
  obtain ⟨h1, h2⟩ := h
  rcases h2 with h2 | ⟨g, cap, cur, hv, hg, r⟩
  · exact ⟨h1, .inl h2⟩
  · exact ⟨h1, .inr ⟨g, cap, cur, hv, by omega, r⟩⟩
theorem own_rebase (h : w.ownsRow base e size v n xs) (hb : ∀ k, v.ownBlock = some k → B ≤ k) : w.ownsRow B e size v n xs := by
  obtain ⟨h1, h2⟩ := h
  rcases h2 with h2 | ⟨g, cap, cur, hv, hg, r⟩
  · exact ⟨h1, .inl h2⟩
  · exact ⟨h1, .inr ⟨g, cap, cur, hv, hb g (by rw [hv]; rfl), r⟩⟩
theorem own_setCell_ne (h : w.ownsRow base e size v n xs) {a : Addr} (u : Value) (hne : v.ownBlock ≠ some a.block) : (w.setCell a u).ownsRow base e size v n xs := by
  obtain ⟨h1, h2⟩ := h
  rcases h2 with h2 | ⟨g, cap, cur, hv, hg, hh, r⟩
  · exact ⟨h1, .inl h2⟩
  · refine ⟨h1, .inr ⟨g, cap, cur, hv, hg, ?_, r⟩⟩
    rw [Below.heap_setCell _ _ _ _ (by intro e; apply hne; rw [hv, ← e]; rfl)]
    exact hh
theorem own_ne {H : Nat} (h1 : ∀ k, u.ownBlock = some k → k < H) (h2 : ∀ k, v.ownBlock = some k → H ≤ k) : u.ownBlock = none ∨ u.ownBlock ≠ v.ownBlock := by
  cases hu : u.ownBlock with
  | none => exact .inl rfl
  | some k =>
    right
    intro he
    have a := h1 k hu
    have b := h2 k he.symm
    omega
end
theorem own_shape {w : World} {base e size n : Nat} {v : Value} {xs : List Value} (h : w.ownsRow base e size v n xs) : ∃ A c, v = .slice A n c ∧ n ≤ c ∧ c ≤ 9223372036854775807 :=
  (Sl.of_own (F := fun _ => True) h (fun _ _ _ => trivial)).shape
/-- A row of structs that the call made (in w'), whose elements are made of what lay in w0. -/
def OwnOf {α : Type} (R : Foot → World → List Value → α → Prop) (F : Foot) (w0 w' : World) (e size : Nat) (v : Value) (l : List α) : Prop :=
  ∃ css : List (List Value), css.length = l.length ∧ (∀ (i : Nat) (cs : List Value) (x : α), css[i]? = some cs → l[i]? = some x → cs.length = size ∧ R F w0 cs x) ∧ w'.ownsRow w0.heap.size e size v l.length css.flatten
section
variable {α : Type} {R : Foot → World → List Value → α → Prop} {F G : Foot} {w0 w w' : World} {base e size : Nat} {v : Value} {l : List α}
/-- A slice of structs as its cells, and back: whoever copies the cells copies the list. -/
theorem SlOf.cells (hR : OneC R) (h : SlOf R F w size v l) : ∃ xs, Sl F w size v l.length xs ∧ (∀ y ∈ xs, y.oneCell' = true) ∧
    ∀ (w' : World) (e : Nat) (v' : Value), w'.ownsRow w.heap.size e size v' l.length xs → OwnOf R F w w' e size v' l := by
  obtain ⟨css, h1, h2, h3⟩ := h
  refine ⟨css.flatten, h3, fun y hy => ?_, fun w' e v' ho => ⟨css, h1, h2, ho⟩⟩
  obtain ⟨cs, hcs, hy⟩ := List.mem_flatten.1 hy
  obtain ⟨q, hq, rfl⟩ := List.getElem_of_mem hcs
  exact hR _ _ _ _ (h2 q _ _ (List.getElem?_eq_getElem hq) (List.getElem?_eq_getElem (by omega : q < l.length))).2 y hy
theorem OwnOf.nil_ (w0 w : World) : OwnOf R F w0 w e size (.slice none 0 0) ([] : List α) := ⟨[], rfl, fun i cs x hc _ => by simp at hc, World.ownsRow_nil _ _ _ _⟩
theorem rows_snoc {P : List Value → α → Prop} {css : List (List Value)} (h1 : css.length = l.length) (h2 : ∀ (i : Nat) (cs : List Value) (x : α), css[i]? = some cs → l[i]? = some x → P cs x)
    {cs : List Value} {x : α} (h3 : P cs x) : ∀ (i : Nat) (ds : List Value) (y : α), (css ++ [cs])[i]? = some ds → (l ++ [x])[i]? = some y → P ds y := by
  intro i ds y hd hy
  by_cases hi : i < l.length
  · rw [List.getElem?_append_left (by omega)] at hd hy
    exact h2 i ds y hd hy
  · have : i = l.length := by
      have := (List.getElem?_eq_some_iff.1 hy).1
      simp at this; omega
    subst this
    rw [← h1, List.getElem?_concat_length] at hd
    rw [List.getElem?_concat_length] at hy
    injection hd with hd; injection hy with hy
    subst hd; subst hy
    exact h3
theorem rows_set {P : List Value → α → Prop} {css : List (List Value)} {i : Nat} (h1 : css.length = l.length) (h2 : ∀ (i : Nat) (cs : List Value) (x : α), css[i]? = some cs → l[i]? = some x → P cs x)
    {cs : List Value} {x : α} (h3 : P cs x) : ∀ (j : Nat) (ds : List Value) (y : α), (css.set i cs)[j]? = some ds → (l.set i x)[j]? = some y → P ds y := by
  intro j ds y hd hy
  by_cases hj : i = j
  · subst hj
    rw [List.getElem?_set_self'] at hd hy
    cases h : css[i]? <;> rw [h] at hd <;> simp at hd
    cases h' : l[i]? <;> rw [h'] at hy <;> simp at hy
    subst hd; subst hy
    exact h3
  · rw [List.getElem?_set_ne hj] at hd hy
    exact h2 j ds y hd hy
theorem rows_erase {P : List Value → α → Prop} {css : List (List Value)} {i : Nat} (h2 : ∀ (i : Nat) (cs : List Value) (x : α), css[i]? = some cs → l[i]? = some x → P cs x) :
    ∀ (j : Nat) (ds : List Value) (y : α), (css.eraseIdx i)[j]? = some ds → (l.eraseIdx i)[j]? = some y → P ds y := by
  intro j ds y hd hy
  rw [List.getElem?_eraseIdx] at hd hy
  split at hd <;> rename_i hlt
  · rw [if_pos hlt] at hy; exact h2 j ds y hd hy
  · rw [if_neg hlt] at hy; exact h2 (j + 1) ds y hd hy
theorem Sl.one (hR : OneC R) {css : List (List Value)} (h1 : css.length = l.length) (h2 : ∀ (i : Nat) (cs : List Value) (x : α), css[i]? = some cs → l[i]? = some x → cs.length = size ∧ R F w cs x) :
    ∀ y ∈ css.flatten, y.oneCell' = true := by
  intro y hy
  obtain ⟨cs, hcs, hy⟩ := List.mem_flatten.1 hy
  obtain ⟨q, hq, rfl⟩ := List.getElem_of_mem hcs
  exact hR _ _ _ _ (h2 q _ _ (List.getElem?_eq_getElem hq) (List.getElem?_eq_getElem (by omega : q < l.length))).2 y hy
/-- Rows of what lay in w0, as they read in a later world. -/
theorem rows_later (hM : Mono R) (hMF : MonoF R) {css : List (List Value)} (h2 : ∀ (i : Nat) (cs : List Value) (x : α), css[i]? = some cs → l[i]? = some x → cs.length = size ∧ R F w0 cs x) (hk : Agree F w0 w) (hF : ∀ b, F b → b < w0.heap.size → G b) :
    ∀ (i : Nat) (cs : List Value) (x : α), css[i]? = some cs → l[i]? = some x → cs.length = size ∧ R G w cs x := fun i cs x hc hx => by
  refine ⟨(h2 i cs x hc hx).1, ?_⟩
  have h := hMF F (lo G w0.heap.size) w0 cs x (h2 i cs x hc hx).2 (fun b hb hl => ⟨hF b hb hl, hl⟩)
  have h' := hMF F (lo F w0.heap.size) w0 cs x (h2 i cs x hc hx).2 (fun b hb hl => ⟨hb, hl⟩)
  have h3 := hM _ w0 w cs x h' ⟨hk.1, fun b hb hl => hk.2 b hb.1 hl⟩
  exact hMF _ _ _ _ _ h3 (fun b hb _ => hF b hb.1 hb.2)
end
/-! ### Cuts; rows of four cells -/
section
variable {F : Foot} {w : World} {size b off n c : Nat} {xs : List Value}
theorem Sl.cut_mk {lo hi : Nat} (h : Sl F w size (.slice (some ⟨b, off, none⟩) n c) n xs) (h1 : lo ≤ hi) (h2 : hi ≤ n) :
    Sl F w size (.slice (some ⟨b, off + lo * size, none⟩) (hi - lo) (c - lo)) (hi - lo) ((xs.drop (lo * size)).take ((hi - lo) * size)) := by
  obtain ⟨A, c', e, g1, g2, g3, g4, g5⟩ := h
  injection e with e1 e2 e3
  subst e1; subst e3
  have hm : (hi - lo) * size ≤ xs.length - lo * size := by
    rw [g3, ← Nat.sub_mul]
    exact Nat.mul_le_mul_right _ (by omega)
  refine ⟨_, _, rfl, by omega, by omega, by rw [List.length_take, List.length_drop]; omega, fun h => (by cases h), fun hn => ?_⟩
  obtain ⟨ad, ha, hb, hF, hc⟩ := g5 (by omega)
  injection ha with ha
  subst ha
  refine ⟨_, rfl, hb, hF, fun j u hu => ?_⟩
  rw [add_mk]
  rw [List.getElem?_take] at hu
  split at hu
  · rw [List.getElem?_drop] at hu
    have := hc _ u hu
    rw [add_mk] at this
    rw [Nat.add_assoc]; exact this
  · cases hu
theorem Sl.take_mk {i : Nat} (h : Sl F w size (.slice (some ⟨b, off, none⟩) n c) n xs) (hi : i ≤ n) :
    Sl F w size (.slice (some ⟨b, off, none⟩) i c) i (xs.take (i * size)) := by
  have := h.cut_mk (lo := 0) (hi := i) (Nat.zero_le _) hi
  simpa using this
theorem Sl.drop_mk {lo : Nat} (h : Sl F w size (.slice (some ⟨b, off, none⟩) n c) n xs) (hi : lo ≤ n) :
    Sl F w size (.slice (some ⟨b, off + lo * size, none⟩) (n - lo) (c - lo)) (n - lo) (xs.drop (lo * size)) := by
  have h1 := h.cut_mk (lo := lo) (hi := n) hi (Nat.le_refl _)
  have hl : xs.length = n * size := by
    obtain ⟨_, _, _, _, _, g3, _⟩ := h
    exact g3
  rw [List.take_of_length_le (by rw [List.length_drop, hl, Nat.sub_mul]; exact Nat.le_refl _)] at h1
  exact h1
end
theorem flatten_take {css : List (List Value)} {size : Nat} (h : ∀ cs ∈ css, cs.length = size) (i : Nat) : css.flatten.take (i * size) = (css.take i).flatten := by
  induction css generalizing i with
  | nil => simp
  | cons c r ih =>
    have hc : c.length = size := h c (by simp)
    cases i with
    | zero => simp
    | succ i =>
      rw [List.flatten_cons, List.take_succ_cons, List.flatten_cons, List.take_append, List.take_of_length_le (by rw [hc, Nat.succ_mul]; omega), hc]
      have : (i + 1) * size - size = i * size := by rw [Nat.succ_mul]; omega
      rw [this, ih (fun cs hcs => h cs (by simp [hcs]))]
theorem flatten_drop {css : List (List Value)} {size : Nat} (h : ∀ cs ∈ css, cs.length = size) (i : Nat) : css.flatten.drop (i * size) = (css.drop i).flatten := by
  induction css generalizing i with
  | nil => simp
  | cons c r ih =>
    have hc : c.length = size := h c (by simp)
    cases i with
    | zero => simp
    | succ i =>
      rw [List.flatten_cons, List.drop_succ_cons, List.drop_append, List.drop_of_length_le (by rw [hc, Nat.succ_mul]; omega), hc]
      have : (i + 1) * size - size = i * size := by rw [Nat.succ_mul]; omega
      rw [this, List.nil_append, ih (fun cs hcs => h cs (by simp [hcs]))]
theorem one_take {xs : List Value} (h : ∀ y ∈ xs, y.oneCell' = true) (n : Nat) : ∀ y ∈ xs.take n, y.oneCell' = true := fun y hy => h y (List.mem_of_mem_take hy)
theorem one_drop {xs : List Value} (h : ∀ y ∈ xs, y.oneCell' = true) (n : Nat) : ∀ y ∈ xs.drop n, y.oneCell' = true := fun y hy => h y (List.mem_of_mem_drop hy)
/-- Row i of a list of rows of four cells, written anew. -/
theorem flatten_set4 {css : List (List Value)} (h : ∀ cs ∈ css, cs.length = 4) {i : Nat} (hi : i < css.length) (a b c d : Value) :
    ((((css.flatten.set (i * 4) a).set (i * 4 + 1) b).set (i * 4 + 2) c).set (i * 4 + 3) d) = (css.set i [a, b, c, d]).flatten := by
  induction css generalizing i with
  | nil => simp at hi
  | cons x r ih =>
    have hx : x.length = 4 := h x (by simp)
    obtain ⟨x0, x1, x2, x3, rfl⟩ : ∃ x0 x1 x2 x3, x = [x0, x1, x2, x3] := by
      match x, hx with
      | [x0, x1, x2, x3], _ => exact ⟨x0, x1, x2, x3, rfl⟩
    cases i with
    | zero => simp
    | succ i =>
      have := ih (fun cs hc => h cs (by simp [hc])) (i := i) (by simpa using hi)
      have e : (i + 1) * 4 = i * 4 + 4 := by omega
      simp only [e, List.flatten_cons, List.set_cons_succ, List.cons_append, List.nil_append]
      rw [← this]
section
variable {w : World} {base e g n cap : Nat} {xs : List Value}
/-- Row i of the call's own, four cells: what is there may be written. -/
theorem own_at4 (h : w.ownsRow base e 4 (.slice (some ⟨g, 0, none⟩) n cap) n xs) {i : Nat} (hi : i < n) : ∃ u0 u1 u2 u3, w.cell? ⟨g, i * 4, none⟩ = some u0 ∧ w.cell? ⟨g, i * 4 + 1, none⟩ = some u1 ∧ w.cell? ⟨g, i * 4 + 2, none⟩ = some u2 ∧ w.cell? ⟨g, i * 4 + 3, none⟩ = some u3 := by
  have hl := h.1
  have e0 := h.cellAt (i * 4) (by omega)
  have e1 := h.cellAt (i * 4 + 1) (by omega)
  have e2 := h.cellAt (i * 4 + 2) (by omega)
  have e3 := h.cellAt (i * 4 + 3) (by omega)
  rw [List.getElem?_eq_getElem (by omega)] at e0 e1 e2 e3
  exact ⟨_, _, _, _, e0, e1, e2, e3⟩
theorem own_store4 (h : w.ownsRow base e 4 (.slice (some ⟨g, 0, none⟩) n cap) n xs) (i : Nat) (a b c d : Value) :
    ((((w.setCell ⟨g, i * 4, none⟩ a).setCell ⟨g, i * 4 + 1, none⟩ b).setCell ⟨g, i * 4 + 2, none⟩ c).setCell ⟨g, i * 4 + 3, none⟩ d).ownsRow base e 4 (.slice (some ⟨g, 0, none⟩) n cap) n ((((xs.set (i * 4) a).set (i * 4 + 1) b).set (i * 4 + 2) c).set (i * 4 + 3) d) :=
  ((((h.stored _ a).1.stored _ b).1.stored _ c).1.stored _ d).1
theorem own_fr (h : w.ownsRow base e 4 (.slice (some ⟨g, 0, none⟩) n cap) n xs) : ∀ o, w.frozen? ⟨g, o, none⟩ = false := fun o => h.frozenAt o
end
end Go.Proofs.Ytlnpelohdamklaa
