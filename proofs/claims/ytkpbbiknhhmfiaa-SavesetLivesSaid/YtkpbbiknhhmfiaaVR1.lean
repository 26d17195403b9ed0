/- What came in, in the walk's words: the shapes of types. No condition. -/
import Derived.Test.YtkpbbiknhhmfiaaRows
import Derived.Test.YtkpbbiknhhmfiaaU3
import Derived.ProofKit
import Derived.OpenShut
import Derived.JoinedCond
import Derived.Carry
namespace Go.Proofs.Ytkpbbiknhhmfiaa
open Go Go.VM Go.RowKit Go.ChangeShapes Go.WideShapes
set_option linter.unusedVariables false
set_option linter.unusedSimpArgs false
/-- The shape of a type: its cells. -/
inductive Sh where
  | int (k : IntKind)
  | bool
  | str
  | sl (k : Nat) (e : Sh)
  | nil
  | fld (k : Nat) (s : Sh) (r : Sh)
def Sh.isSt : Sh → Bool
  | .nil => true
  | .fld _ _ _ => true
  | _ => false
def FitB (st : Bool) (f : List AV → Prop) (x : AV) : Prop := if st then ∃ cs, x = .agg cs ∧ f cs else f [x]
def Fits (N : Nat) : Sh → List AV → Prop
  | .int k, l => ∃ n, l = [.val (.int k n)] ∧ (Lit.int k n).wf = true
  | .bool, l => ∃ b, l = [.val (.bool b)]
  | .str, l => ∃ s, l = [.val (.string s)] ∧ s.size ≤ N
  | .sl k e, l => ∃ es, l = [.ro k es] ∧ es.length ≤ N ∧ ∀ x ∈ es, FitB e.isSt (Fits N e) x
  | .nil, l => l = []
  | .fld k s r, l => ∃ a b, l = a ++ b ∧ a.length = k ∧ Fits N s a ∧ Fits N r b
/-- One value of a shape. -/
def FitE (N : Nat) (s : Sh) (x : AV) : Prop := FitB s.isSt (Fits N s) x
def contig (P : Program) (n : Nat) : Nat → List Field → Bool
  | off, [] => off == n
  | off, f :: r => f.offset == off && contig P n (off + P.cellsOf f.type) r
def flds (P : Program) (g : TypeId → Option Sh) : List Field → Option Sh
  | [] => some .nil
  | f :: r => match g f.type, flds P g r with
    | some s, some q => some (.fld (P.cellsOf f.type) s q)
    | _, _ => none
def chain (k : Nat) (s : Sh) : Nat → Sh
  | 0 => .nil
  | n + 1 => .fld k s (chain k s n)
def shOf (P : Program) : Nat → TypeId → Option Sh
  | 0, _ => none
  | g + 1, t => match P.underlying t with
    | some .bool => some .bool
    | some (.int k) => some (.int k)
    | some .string => some .str
    | some (.slice e) => if P.cellsOf e = 0 then none else match shOf P g e with | some s => some (.sl (P.cellsOf e) s) | none => none
    | some (.struct fs) => if contig P (P.cellsOf t) 0 fs.toList then flds P (shOf P g) fs.toList else none
    | some (.array n e) => if n * P.cellsOf e = P.cellsOf t then match shOf P g e with | some s => some (chain (P.cellsOf e) s n) | none => none else none
    | _ => none
theorem Fits.ones {N : Nat} : ∀ {s : Sh} {l : List AV}, Fits N s l → ∀ x ∈ l, x.one = true
  | .int k, l, h, x, hx => by obtain ⟨n, rfl, _⟩ := h; simp at hx; subst hx; rfl
  | .bool, l, h, x, hx => by obtain ⟨n, rfl⟩ := h; simp at hx; subst hx; rfl
  | .str, l, h, x, hx => by obtain ⟨n, rfl, _⟩ := h; simp at hx; subst hx; rfl
  | .sl k e, l, h, x, hx => by obtain ⟨n, rfl, _⟩ := h; simp at hx; subst hx; rfl
  | .nil, l, h, x, hx => by simp only [Fits] at h; subst h; cases hx
  | .fld k s r, l, h, x, hx => by
    obtain ⟨a, b, rfl, _, h1, h2⟩ := h
    rcases List.mem_append.1 hx with hx | hx
    · exact h1.ones x hx
    · exact h2.ones x hx
theorem Fits.single {N : Nat} {s : Sh} {l : List AV} (hs : s.isSt = false) (h : Fits N s l) : ∃ x, l = [x] := by
  cases s
  case int => obtain ⟨n, rfl, _⟩ := h; exact ⟨_, rfl⟩
  case bool => obtain ⟨n, rfl⟩ := h; exact ⟨_, rfl⟩
  case str => obtain ⟨n, rfl, _⟩ := h; exact ⟨_, rfl⟩
  case sl => obtain ⟨n, rfl, _⟩ := h; exact ⟨_, rfl⟩
  all_goals simp [Sh.isSt] at hs
theorem mapM_at {α β : Type} {f : α → Option β} : ∀ {l : List α} {r : List β}, l.mapM f = some r → r.length = l.length ∧ ∀ (i : Nat) (x : α), l[i]? = some x → ∃ y, r[i]? = some y ∧ f x = some y
  | [], r, h => by
    simp at h; subst h; exact ⟨rfl, fun i x hx => by simp at hx⟩
  | a :: l, r, h => by
    rw [List.mapM_cons] at h
    simp only [Option.bind_eq_bind, Option.bind_eq_some_iff, Option.pure_def, Option.some.injEq] at h
    obtain ⟨b, hb, q, hq, rfl⟩ := h
    obtain ⟨h1, h2⟩ := mapM_at hq
    refine ⟨by simp [h1], fun i x hx => ?_⟩
    cases i with
    | zero => simp at hx; subst hx; exact ⟨b, rfl, hb⟩
    | succ i => exact h2 i x (by simpa using hx)
theorem rel_ones {m : Ghost} : ∀ {l : List AV} {cs : List Value}, RelL m l cs → (∀ x ∈ l, x.one = true) → ∀ y ∈ cs, y.oneCell' = true
  | [], cs, h, _, y, hy => by simp only [RelL] at h; subst h; cases hy
  | x :: l, cs, h, h1, y, hy => by
    simp only [RelL] at h
    obtain ⟨c, r, rfl, h2, h3⟩ := h
    rcases List.mem_cons.1 hy with rfl | hy
    · exact h2.one (h1 x (.head _))
    · exact rel_ones h3 (fun z hz => h1 z (.tail _ hz)) y hy
def heapG (W : World) : Ghost := fun b => W.heap[b]?
theorem relE_of {m : Ghost} {k : Nat} : ∀ {es : List AV} {ys : List Value}, ys.length = es.length * k →
    (∀ (i : Nat) (x : AV), es[i]? = some x → ∃ v, Rel m x v ∧ v.cells.size = k ∧ (ys.drop (i * k)).take k = v.cells.toList ∧ ∀ y ∈ v.cells.toList, y.oneCell' = true) → RelE m k es ys ∧ ∀ y ∈ ys, y.oneCell' = true
  | [], ys, hl, _ => by
    have : ys = [] := List.eq_nil_of_length_eq_zero (by simpa using hl)
    subst this
    simp [RelE]
  | x :: es, ys, hl, h => by
    obtain ⟨v, h1, h2, h3, h4⟩ := h 0 x rfl
    rw [Nat.zero_mul, List.drop_zero] at h3
    have hl' : ys.length = es.length * k + k := by rw [hl, List.length_cons, Nat.succ_mul]
    obtain ⟨r1, r2⟩ := relE_of (k := k) (es := es) (ys := ys.drop k) (by rw [List.length_drop]; omega) (fun i y hy => by
      obtain ⟨u, g1, g2, g3, g4⟩ := h (i + 1) y (by simpa using hy)
      refine ⟨u, g1, g2, ?_, g4⟩
      rw [List.drop_drop, ← g3, Nat.succ_mul, Nat.add_comm])
    refine ⟨?_, fun y hy => ?_⟩
    · simp only [RelE]
      exact ⟨v, ys.drop k, by rw [← h3, List.take_append_drop], h2, h1, r1⟩
    · rw [← List.take_append_drop k ys] at hy
      rcases List.mem_append.1 hy with hy | hy
      · rw [h3] at hy; exact h4 y hy
      · exact r2 y hy
theorem cells_at {W : World} {a : Addr} {k : Nat} {cs : List Value} (h : W.cells? 0 a k = some cs) : cs.length = k ∧ ∀ j, j < k → W.cell? (a.add j) = cs[j]? := by
  unfold World.cells? at h
  rw [if_pos (Nat.zero_le _)] at h
  obtain ⟨h1, h2⟩ := mapM_at h
  refine ⟨by simpa using h1, fun j hj => ?_⟩
  obtain ⟨y, hy, he⟩ := h2 j j (by simp [hj])
  rw [he, hy]
theorem cell_block {W : World} {a : Addr} {v : Value} (h : W.cell? a = some v) : ∃ cs e fr, W.heap[a.block]? = some (.cells cs e fr) ∧ a.spot = none ∧ cs[a.off]? = some v := by
  unfold World.cell? at h
  split at h
  · rename_i c e fr hc
    split at h
    · cases h
    · rename_i hs
      exact ⟨c, e, fr, hc, by simpa using hs, h⟩
  · cases h
end Go.Proofs.Ytkpbbiknhhmfiaa
