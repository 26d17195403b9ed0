import Derived.Test.YtmhncankbgjmbaaVM1
import Derived.Laws.StructEq
import Derived.Laws.Small
import Derived.WalkSpells
namespace Go.VM
open Go
set_option linter.unusedVariables false
set_option linter.unusedSimpArgs false

/-! ### The program's types, asked by the kernel -/
def valQ (P : Program) (t : Nat) : Option (Bool × Nat) :=
  match P.underlying t, P.info? t with
  | some (.struct _), some i => some (true, i.size)
  | some (.array _ _), some i => some (true, i.size)
  | some _, some i => if i.size = 1 then some (false, 1) else none
  | _, _ => none
def fldQ (P : Program) (t i : Nat) : Option (Nat × Nat × Bool) :=
  match P.underlying t with
  | some (.struct fs) =>
    match fs[i]? with
    | some f => match valQ P f.type with
      | some (g, n) => if n = 0 then none else some (f.offset, n, g)
      | none => none
    | none => none
  | _ => none
def zeroQ (P : Program) (t : Nat) : Option (List AV) :=
  match P.info? t with
  | some i => match i.zero with
    | some z => if z.cells.size = i.size ∧ z.cells.all (·.oneCell') = true then some (z.cells.toList.map .val) else none
    | none => none
  | none => none
def elemQ (P : Program) (t : Nat) : Option (Nat × Nat × Nat × Bool) :=
  match P.underlying t with
  | some (.slice e) =>
    match P.info? e, valQ P e with
    | some i, some (g, n) => match i.zero with
      | some z => if z.cells.size = i.size ∧ 0 < i.size then some (e, i.size, i.bytes, g) else none
      | none => none
    | _, _ => none
  | _ => none
class TVal (P : Program) (t : Nat) (g : outParam Bool) (n : outParam Nat) : Prop where h : valQ P t = some (g, n)
class TFld (P : Program) (t i : Nat) (off n : outParam Nat) (g : outParam Bool) : Prop where h : fldQ P t i = some (off, n, g)
class TZero (P : Program) (t : Nat) (z : outParam (List AV)) : Prop where h : zeroQ P t = some z
class TElem (P : Program) (t : Nat) (e k by_ : outParam Nat) (g : outParam Bool) : Prop where h : elemQ P t = some (e, k, by_, g)
class TInt (P : Program) (t : Nat) (k : outParam IntKind) : Prop where h : P.underlying t = some (.int k)
class TStr (P : Program) (t : Nat) : Prop where h : P.underlying t = some .string
class TArr (P : Program) (t : Nat) (n e k : outParam Nat) (g : outParam Bool) : Prop where
  h : P.underlying t = some (.array n e)
  v : valQ P e = some (g, k)

section
variable {P : Program} {t : Nat}
theorem valQ_spec {g : Bool} {n : Nat} (h : valQ P t = some (g, n)) : (∃ d, P.underlying t = some d ∧ (match d with | .struct _ | .array _ _ => true | _ => false) = g) ∧ (∃ i, P.info? t = some i ∧ i.size = n) ∧ (g = false → n = 1) := by
  unfold valQ at h
  split at h
  · rename_i fs i hu hi
    injection h with h; injection h with h1 h2
    subst h1; subst h2
    exact ⟨⟨_, hu, rfl⟩, ⟨i, hi, rfl⟩, fun h => by cases h⟩
  · rename_i fs i hu hi
    injection h with h; injection h with h1 h2
    subst h1; subst h2
    exact ⟨⟨_, hu, rfl⟩, ⟨i, hi, rfl⟩, fun h => by cases h⟩
  · rename_i d i hns hna hu hi
    split at h
    · rename_i hs
      injection h with h; injection h with h1 h2
      subst h1; subst h2
      refine ⟨⟨d, hu, ?_⟩, ⟨i, hi, hs⟩, fun _ => rfl⟩
      cases d <;> first | rfl | (exfalso; first | exact hns _ rfl | exact hna _ _ rfl)
    · cases h
  · cases h
theorem run_isAgg {g : Bool} {n : Nat} (h : valQ P t = some (g, n)) (w : World) : (isAgg t).run P w = .ok g w := by
  obtain ⟨⟨d, hd, hg⟩, _⟩ := valQ_spec h
  unfold isAgg
  simp only [Sem.run_bind, run_underlying hd, Result.andThen_ok]
  subst hg
  cases d <;> rfl
theorem run_sizeOf {g : Bool} {n : Nat} (h : valQ P t = some (g, n)) (w : World) : (sizeOf t).run P w = .ok n w := by
  obtain ⟨_, ⟨i, hi, hs⟩, _⟩ := valQ_spec h
  simp [sizeOf, typeInfo, hi, hs]
/-- What a variable's cells are as a value. -/
def mk (g : Bool) (ys : List Value) : Value := match g, ys with
  | true, ys => .agg ys.toArray
  | false, y :: _ => y
  | false, [] => undef
theorem add_mk' (b off i : Nat) : (⟨b, off, none⟩ : Addr).add i = ⟨b, off + i, none⟩ := by unfold Addr.add; split <;> simp_all
theorem cell_of {w : World} {b off : Nat} {cs : Array Value} {e : Nat} {fr : Nat × Nat} (hb : w.heap[b]? = some (.cells cs e fr)) : w.cell? ⟨b, off, none⟩ = cs[off]? := by
  simp [World.cell?, hb]
theorem run_loadVar' {g : Bool} {n b off : Nat} {cs : Array Value} {e : Nat} {fr : Nat × Nat} {w : World} (h : valQ P t = some (g, n)) (hb : w.heap[b]? = some (.cells cs e fr)) (hl : off + n ≤ cs.size) :
    (loadVar t ⟨b, off, none⟩).run P w = .ok (mk g ((cs.toList.drop off).take n)) w := by
  unfold loadVar
  simp only [Sem.run_bind, run_isAgg h, Result.andThen_ok]
  cases g with
  | true =>
    simp only [if_true, Sem.run_bind, run_sizeOf h, Result.andThen_ok]
    have := run_loadCells_list (P := P) (w := w) ⟨b, off, none⟩ ((cs.toList.drop off).take n) (fun j v hj => by
      rw [add_mk', cell_of hb]
      rw [List.getElem?_take] at hj
      split at hj
      · rw [List.getElem?_drop] at hj; simpa using hj
      · cases hj)
    have hlen : ((cs.toList.drop off).take n).length = n := by rw [List.length_take, List.length_drop]; simp; omega
    rw [hlen] at this
    rw [this]
    rfl
  | false =>
    have hn := (valQ_spec h).2.2 rfl
    subst hn
    simp only [Bool.false_eq_true, if_false, run_load, cell_of hb]
    have : cs[off]? = some cs[off] := Array.getElem?_eq_getElem (by omega)
    rw [this]
    have e2 : (cs.toList.drop off).take 1 = [cs[off]] := by
      rw [List.drop_eq_getElem_cons (by simp; omega)]
      simp
    rw [e2]
    rfl
/-- The same of abstract cells. -/
def loadA (g : Bool) (n : Nat) (l : List AV) (off : Nat) : Option AV := match g with
  | true => if off + n ≤ l.length then some (.agg ((l.drop off).take n)) else none
  | false => l[off]?
theorem mk_rel {m : Ghost} {g : Bool} {n off : Nat} {l : List AV} {cs : List Value} {v : AV} (h : RelL m l cs) (hv : loadA g n l off = some v) (hn : g = false → n = 1) :
    Rel m v (mk g ((cs.drop off).take n)) ∧ off + n ≤ cs.length := by
  cases g with
  | true =>
    simp only [loadA] at hv
    split at hv
    · injection hv with hv
      subst hv
      refine ⟨?_, by rw [h.length]; assumption⟩
      simp only [Rel, mk]
      exact ⟨_, rfl, (h.drop off).take n⟩
    · cases hv
  | false =>
    simp only [loadA] at hv
    have hn := hn rfl
    subst hn
    obtain ⟨c, h1, h2⟩ := h.at _ _ hv
    have hlt := (List.getElem?_eq_some_iff.1 h1).1
    rw [List.drop_eq_getElem_cons hlt]
    refine ⟨?_, hlt⟩
    simp only [mk, List.take_succ_cons]
    rw [List.getElem?_eq_getElem hlt] at h1
    injection h1 with h1
    rw [h1]; exact h2

variable {d : Option Nat} {ty : Nat} {pos : String} {af : Array Edge} {gd : Option (Nat × Bool)} {tm : List (Nat × AV)} {h : Heap} {x y : Operand}
theorem pur_move {v : AV} (hx : evalA tm x = some v) : PurV P ⟨d, .move x, ty, pos, af, gd⟩ tm h v :=
  fun m a _ ht _ _ => ⟨_, ht.eval hx, fun w => rfl⟩
theorem pur_assign {v : AV} (hx : evalA tm x = some v) : PurV P ⟨d, .assign x, ty, pos, af, gd⟩ tm h v :=
  fun m a _ ht _ _ => ⟨_, ht.eval hx, fun w => rfl⟩
theorem pur_pick_t {c : Operand} {b : Bool} {v : AV} (hc : evalA tm c = some (.val (.bool b))) (hb : b = true) (hx : evalA tm x = some v) : PurV P ⟨d, .pick c x y, ty, pos, af, gd⟩ tm h v :=
  fun m a _ ht _ _ => ⟨_, ht.eval hx, fun w => by
    have := ht.eval hc
    simp only [Rel] at this
    simp [execOp, this.1, asBool, hb]⟩
theorem pur_pick_f {c : Operand} {b : Bool} {v : AV} (hc : evalA tm c = some (.val (.bool b))) (hb : b = false) (hx : evalA tm y = some v) : PurV P ⟨d, .pick c x y, ty, pos, af, gd⟩ tm h v :=
  fun m a _ ht _ _ => ⟨_, ht.eval hx, fun w => by
    have := ht.eval hc
    simp only [Rel] at this
    simp [execOp, this.1, asBool, hb]⟩
theorem pur_val {o : Oper} {v : Value} (hr : ∀ (m : Ghost) (a : Act), TRel m tm a.tmps → ∀ w, (execOp a.eval o).run P w = .ok (.value v) w) (h1 : v.oneCell' = true := by rfl) : PurV P o tm h (.val v) :=
  fun m a _ ht _ _ => ⟨v, rel_val h1, fun w => hr m a ht w⟩
theorem eval_val {m : Ghost} {a : Act} {v : Value} (ht : TRel m tm a.tmps) (hx : evalA tm x = some (.val v)) : a.eval x = v := by
  have := ht.eval hx
  simp only [Rel] at this
  exact this.1
/-! Integers -/
section
variable {xt yt : Nat} {k : IntKind} {a b c : Int}
theorem pur_add (hx : evalA tm x = some (.val (.int k a))) (hy : evalA tm y = some (.val (.int k b))) (hw : k.wrap (a + b) = c) : PurV P ⟨d, .binOp .add xt x y yt, ty, pos, af, gd⟩ tm h (.val (.int k c)) :=
  pur_val fun m ac ht w => by simp [execOp, eval_val ht hx, eval_val ht hy, eqGuard, binOp, Op.intArith, hw]
theorem pur_sub (hx : evalA tm x = some (.val (.int k a))) (hy : evalA tm y = some (.val (.int k b))) (hw : k.wrap (a - b) = c) : PurV P ⟨d, .binOp .sub xt x y yt, ty, pos, af, gd⟩ tm h (.val (.int k c)) :=
  pur_val fun m ac ht w => by simp [execOp, eval_val ht hx, eval_val ht hy, eqGuard, binOp, Op.intArith, hw]
theorem pur_mul (hx : evalA tm x = some (.val (.int k a))) (hy : evalA tm y = some (.val (.int k b))) (hw : k.wrap (a * b) = c) : PurV P ⟨d, .binOp .mul xt x y yt, ty, pos, af, gd⟩ tm h (.val (.int k c)) :=
  pur_val fun m ac ht w => by simp [execOp, eval_val ht hx, eval_val ht hy, eqGuard, binOp, Op.intArith, hw]
theorem pur_quo (hx : evalA tm x = some (.val (.int k a))) (hy : evalA tm y = some (.val (.int k b))) (hb : b ≠ 0) (hw : k.wrap (a.tdiv b) = c) : PurV P ⟨d, .binOp .quo xt x y yt, ty, pos, af, gd⟩ tm h (.val (.int k c)) :=
  pur_val fun m ac ht w => by simp [execOp, eval_val ht hx, eval_val ht hy, eqGuard, binOp, Op.intDiv, hb, hw]
theorem pur_rem (hx : evalA tm x = some (.val (.int k a))) (hy : evalA tm y = some (.val (.int k b))) (hb : b ≠ 0) (hw : a.tmod b = c) : PurV P ⟨d, .binOp .rem xt x y yt, ty, pos, af, gd⟩ tm h (.val (.int k c)) :=
  pur_val fun m ac ht w => by simp [execOp, eval_val ht hx, eval_val ht hy, eqGuard, binOp, Op.intDiv, hb, hw]
/-- Bits. -/
def bitsI (op : BinOp) (k : IntKind) (a b : Int) : Int :=
  k.wrap ((match op with
    | .and => BitVec.ofInt k.bits a &&& BitVec.ofInt k.bits b
    | .or => BitVec.ofInt k.bits a ||| BitVec.ofInt k.bits b
    | .xor => BitVec.ofInt k.bits a ^^^ BitVec.ofInt k.bits b
    | _ => BitVec.ofInt k.bits a &&& ~~~ BitVec.ofInt k.bits b).toNat)
theorem pur_bits {op : BinOp} (hop : (match op with | .and | .or | .xor | .andNot => true | _ => false) = true) (hx : evalA tm x = some (.val (.int k a))) (hy : evalA tm y = some (.val (.int k b))) (hw : bitsI op k a b = c) : PurV P ⟨d, .binOp op xt x y yt, ty, pos, af, gd⟩ tm h (.val (.int k c)) :=
  pur_val fun m ac ht w => by
    cases op <;> first | (simp at hop; done) | (simp [execOp, eval_val ht hx, eval_val ht hy, eqGuard, binOp, Op.intBits, ← hw, bitsI])
theorem pur_shl {k' : IntKind} (hx : evalA tm x = some (.val (.int k a))) (hy : evalA tm y = some (.val (.int k' b))) (hb : 0 ≤ b) (hw : k.wrap (a * 2 ^ (min b.toNat k.bits)) = c) : PurV P ⟨d, .binOp .shl xt x y yt, ty, pos, af, gd⟩ tm h (.val (.int k c)) :=
  pur_val fun m ac ht w => by
    have : ¬ b < 0 := by omega
    simp [execOp, eval_val ht hx, eval_val ht hy, eqGuard, binOp, Op.shift, this, hw]
theorem pur_shr {k' : IntKind} (hx : evalA tm x = some (.val (.int k a))) (hy : evalA tm y = some (.val (.int k' b))) (hb : 0 ≤ b) (hw : a.fdiv (2 ^ (min b.toNat k.bits)) = c) : PurV P ⟨d, .binOp .shr xt x y yt, ty, pos, af, gd⟩ tm h (.val (.int k c)) :=
  pur_val fun m ac ht w => by
    have : ¬ b < 0 := by omega
    simp [execOp, eval_val ht hx, eval_val ht hy, eqGuard, binOp, Op.shift, this, hw]
theorem pur_lss (hx : evalA tm x = some (.val (.int k a))) (hy : evalA tm y = some (.val (.int k b))) : PurV P ⟨d, .binOp .lss xt x y yt, ty, pos, af, gd⟩ tm h (.val (.bool (decide (a < b)))) :=
  pur_val fun m ac ht w => by simp [execOp, eval_val ht hx, eval_val ht hy, eqGuard, binOp, Op.intCmp]
theorem pur_leq (hx : evalA tm x = some (.val (.int k a))) (hy : evalA tm y = some (.val (.int k b))) : PurV P ⟨d, .binOp .leq xt x y yt, ty, pos, af, gd⟩ tm h (.val (.bool (decide (a ≤ b)))) :=
  pur_val fun m ac ht w => by simp [execOp, eval_val ht hx, eval_val ht hy, eqGuard, binOp, Op.intCmp]
theorem pur_gtr (hx : evalA tm x = some (.val (.int k a))) (hy : evalA tm y = some (.val (.int k b))) : PurV P ⟨d, .binOp .gtr xt x y yt, ty, pos, af, gd⟩ tm h (.val (.bool (decide (b < a)))) :=
  pur_val fun m ac ht w => by simp [execOp, eval_val ht hx, eval_val ht hy, eqGuard, binOp, Op.intCmp]
theorem pur_geq (hx : evalA tm x = some (.val (.int k a))) (hy : evalA tm y = some (.val (.int k b))) : PurV P ⟨d, .binOp .geq xt x y yt, ty, pos, af, gd⟩ tm h (.val (.bool (decide (b ≤ a)))) :=
  pur_val fun m ac ht w => by simp [execOp, eval_val ht hx, eval_val ht hy, eqGuard, binOp, Op.intCmp]
theorem pur_eql (hx : evalA tm x = some (.val (.int k a))) (hy : evalA tm y = some (.val (.int k b))) : PurV P ⟨d, .binOp .eql xt x y yt, ty, pos, af, gd⟩ tm h (.val (.bool (decide (a = b)))) :=
  pur_val fun m ac ht w => by
    simp [execOp, eval_val ht hx, eval_val ht hy, eqGuard, binOp, Op.intCmp]
    rw [Bool.eq_iff_iff]; simp
theorem pur_neq (hx : evalA tm x = some (.val (.int k a))) (hy : evalA tm y = some (.val (.int k b))) : PurV P ⟨d, .binOp .neq xt x y yt, ty, pos, af, gd⟩ tm h (.val (.bool (decide (a ≠ b)))) :=
  pur_val fun m ac ht w => by
    simp [execOp, eval_val ht hx, eval_val ht hy, eqGuard, binOp, Op.intCmp]
    rw [Bool.eq_iff_iff]; simp
theorem pur_neg (hx : evalA tm x = some (.val (.int k a))) (hw : k.wrap (0 - a) = c) : PurV P ⟨d, .unOp .neg xt x, ty, pos, af, gd⟩ tm h (.val (.int k c)) :=
  pur_val fun m ac ht w => by simp only [Int.zero_sub] at hw; simp [execOp, eval_val ht hx, Op.unary, Op.intArith, hw]
theorem pur_conv {k' : IntKind} {st dt : Nat} [h1 : TInt P dt k'] [h2 : TInt P st k] (hx : evalA tm x = some (.val (.int k a))) (hw : k'.wrap a = c) : PurV P ⟨d, .convert st dt x, ty, pos, af, gd⟩ tm h (.val (.int k' c)) :=
  pur_val fun m ac ht w => by simp [execOp, eval_val ht hx, convert, run_underlying h1.h, run_underlying h2.h, Conv.intToInt, hw]
end
theorem pur_not {xt : Nat} {p : Prop} [Decidable p] (hx : evalA tm x = some (.val (.bool (decide p)))) : PurV P ⟨d, .unOp .not xt x, ty, pos, af, gd⟩ tm h (.val (.bool (decide (¬ p)))) :=
  pur_val fun m ac ht w => by simp [execOp, eval_val ht hx, Op.unary]
theorem pur_notb {xt : Nat} {p : Bool} (hx : evalA tm x = some (.val (.bool p))) : PurV P ⟨d, .unOp .not xt x, ty, pos, af, gd⟩ tm h (.val (.bool (!p))) :=
  pur_val fun m ac ht w => by simp [execOp, eval_val ht hx, Op.unary]
/-! Wrapping -/
theorem wrap_i64 {a : Int} (h1 : -9223372036854775808 ≤ a) (h2 : a ≤ 9223372036854775807) : IntKind.i64.wrap a = a := by
  simp [IntKind.wrap, IntKind.bits, IntKind.signed]; omega
theorem wrap_i32 {a : Int} (h1 : -2147483648 ≤ a) (h2 : a ≤ 2147483647) : IntKind.i32.wrap a = a := by
  simp [IntKind.wrap, IntKind.bits, IntKind.signed]; omega
theorem wrap_u8 {a : Int} (h1 : 0 ≤ a) (h2 : a ≤ 255) : IntKind.u8.wrap a = a := by
  simp [IntKind.wrap, IntKind.bits, IntKind.signed]; omega
theorem wrap_u16 {a : Int} (h1 : 0 ≤ a) (h2 : a ≤ 65535) : IntKind.u16.wrap a = a := by
  simp [IntKind.wrap, IntKind.bits, IntKind.signed]; omega
theorem wrap_u32 {a : Int} (h1 : 0 ≤ a) (h2 : a ≤ 4294967295) : IntKind.u32.wrap a = a := by
  simp [IntKind.wrap, IntKind.bits, IntKind.signed]; omega
theorem wrap_u64 {a : Int} (h1 : 0 ≤ a) (h2 : a ≤ 18446744073709551615) : IntKind.u64.wrap a = a := by
  simp [IntKind.wrap, IntKind.bits, IntKind.signed]; omega
theorem quo_nn {a b : Int} (h1 : 0 ≤ a) (h2 : 0 < b) : IntKind.i64.wrap (a.tdiv b) = if a ≤ 9223372036854775807 then a / b else IntKind.i64.wrap (a.tdiv b) := by
  split
  · rename_i h
    rw [Int.tdiv_eq_ediv_of_nonneg h1]
    have h3 : 0 ≤ a / b := Int.ediv_nonneg h1 (Int.le_of_lt h2)
    have h4 : a / b ≤ a := Int.ediv_le_self _ h1
    exact wrap_i64 (by omega) (by omega)
  · rfl
theorem wrap_quo {a b : Int} (h1 : 0 ≤ a) (h2 : 0 < b) (h : a ≤ 9223372036854775807) : IntKind.i64.wrap (a.tdiv b) = a / b := by
  rw [quo_nn h1 h2, if_pos h]
theorem tmod_nn {a b : Int} (h1 : 0 ≤ a) : a.tmod b = a % b := Int.tmod_eq_emod_of_nonneg h1
/-! Bools, tuples, structs -/
theorem pur_eqb {xt yt : Nat} {a b : Bool} (hu : P.underlying xt = some .bool) (hx : evalA tm x = some (.val (.bool a))) (hy : evalA tm y = some (.val (.bool b))) : PurV P ⟨d, .binOp .eql xt x y yt, ty, pos, af, gd⟩ tm h (.val (.bool (decide (a = b)))) :=
  pur_val fun m ac ht w => by
    have he : (Op.equal xt (.bool a) (.bool b)).run P w = .ok (a == b) w := run_equal_bool w xt a b hu
    simp [execOp, eval_val ht hx, eval_val ht hy, eqGuard, binOp, he]
    cases a <;> cases b <;> rfl
theorem pur_neb {xt yt : Nat} {a b : Bool} (hu : P.underlying xt = some .bool) (hx : evalA tm x = some (.val (.bool a))) (hy : evalA tm y = some (.val (.bool b))) : PurV P ⟨d, .binOp .neq xt x y yt, ty, pos, af, gd⟩ tm h (.val (.bool (decide (a ≠ b)))) :=
  pur_val fun m ac ht w => by
    have he : (Op.equal xt (.bool a) (.bool b)).run P w = .ok (a == b) w := run_equal_bool w xt a b hu
    simp [execOp, eval_val ht hx, eval_val ht hy, eqGuard, binOp, he]
    cases a <;> cases b <;> rfl
theorem pur_extract {l : List AV} {v : AV} {i : Nat} (hx : evalA tm x = some (.tup l)) (hv : l[i]? = some v) : PurV P ⟨d, .extract x i, ty, pos, af, gd⟩ tm h v := fun m a w0 ht g1 g2 => by
  have h1 := ht.eval hx
  simp only [Rel] at h1
  obtain ⟨cs, h1, h2⟩ := h1
  obtain ⟨c, h3, h4⟩ := h2.at _ _ hv
  refine ⟨c, h4, fun w => ?_⟩
  have h3' : cs[i]? = some c := by simpa using h3
  simp [execOp, h1, Instr.extract, h3']
theorem fldQ_spec {i off n : Nat} {g : Bool} (hf : fldQ P t i = some (off, n, g)) : ∃ fs f, P.underlying t = some (.struct fs) ∧ fs[i]? = some f ∧ f.offset = off ∧ valQ P f.type = some (g, n) ∧ n ≠ 0 := by
  unfold fldQ at hf
  split at hf
  · rename_i fs hu
    split at hf
    · rename_i f hf'
      split at hf
      · rename_i g' n' hv
        split at hf
        · cases hf
        · rename_i hn
          injection hf with hf; injection hf with h1 hf; injection hf with h2 h3
          subst h1; subst h2; subst h3
          exact ⟨fs, f, hu, hf', rfl, hv, hn⟩
      · cases hf
    · cases hf
  · cases hf
theorem run_part {g : Bool} {n off : Nat} {cs : Array Value} {w : World} (hv : valQ P t = some (g, n)) (hl : off + n ≤ cs.size) : (part t cs off).run P w = .ok (mk g ((cs.toList.drop off).take n)) w := by
  unfold part
  simp only [Sem.run_bind, run_isAgg hv, Result.andThen_ok]
  cases g with
  | true =>
    simp only [if_true, Sem.run_bind, run_sizeOf hv, Result.andThen_ok, Sem.run_pure, mk]
    congr 2
    apply Array.ext'
    simp [Array.toList_extract, List.extract_eq_take_drop]
  | false =>
    have hn := (valQ_spec hv).2.2 rfl
    subst hn
    have : cs[off]? = some cs[off] := Array.getElem?_eq_getElem (by omega)
    simp only [Bool.false_eq_true, if_false, this, Sem.run_pure]
    have e2 : (cs.toList.drop off).take 1 = [cs[off]] := by
      rw [List.drop_eq_getElem_cons (by simp; omega)]
      simp
    rw [e2]; rfl
theorem pur_field {xt i off n : Nat} {g : Bool} {l : List AV} {v : AV} [hf : TFld P xt i off n g] (hx : evalA tm x = some (.agg l)) (hv : loadA g n l off = some v) : PurV P ⟨d, .field xt x i, ty, pos, af, gd⟩ tm h v := fun m a w0 ht g1 g2 => by
  obtain ⟨fs, f, h1, h2, h3, h4, h5⟩ := fldQ_spec hf.h
  have hx := ht.eval hx
  simp only [Rel] at hx
  obtain ⟨cs, hx, hr⟩ := hx
  obtain ⟨h6, h7⟩ := mk_rel hr hv (valQ_spec h4).2.2
  refine ⟨_, h6, fun w => ?_⟩
  simp [execOp, hx, Instr.field, run_underlying h1, h2, asAgg, h3, run_part h4 (by simpa using h7)]
theorem run_fieldPlace {f : Field} {g : Bool} {n b off : Nat} {w : World} (hv : valQ P f.type = some (g, n)) (hn : n ≠ 0) : (fieldPlace ⟨b, off, none⟩ f).run P w = .ok ⟨b, off + f.offset, none⟩ w := by
  unfold fieldPlace
  simp [run_sizeOf hv, hn, add_mk']
theorem pur_fieldAddr {xt i off n b o : Nat} {g : Bool} [hf : TFld P xt i off n g] (hx : evalA tm x = some (.val (.pointer (some ⟨b, o, none⟩)))) : PurV P ⟨d, .fieldAddr xt x i, ty, pos, af, gd⟩ tm h (.val (.pointer (some ⟨b, o + off, none⟩))) := by
  obtain ⟨fs, f, h1, h2, h3, h4, h5⟩ := fldQ_spec hf.h
  exact pur_val fun m a ht w => by simp [execOp, eval_val ht hx, Instr.fieldAt, run_underlying h1, h2, Instr.sureAddr, run_fieldPlace h4 h5, h3]
theorem pur_fieldAddr0 {xt i n b o : Nat} {g : Bool} [hf : TFld P xt i 0 n g] (hx : evalA tm x = some (.val (.pointer (some ⟨b, o, none⟩)))) : PurV P ⟨d, .fieldAddr xt x i, ty, pos, af, gd⟩ tm h (.val (.pointer (some ⟨b, o, none⟩))) := pur_fieldAddr (hf := hf) hx
theorem pur_fieldAddr00 {xt i off n b : Nat} {g : Bool} [hf : TFld P xt i off n g] (hx : evalA tm x = some (.val (.pointer (some ⟨b, 0, none⟩)))) : PurV P ⟨d, .fieldAddr xt x i, ty, pos, af, gd⟩ tm h (.val (.pointer (some ⟨b, off, none⟩))) := by
  have := pur_fieldAddr (P := P) (d := d) (ty := ty) (pos := pos) (af := af) (gd := gd) (h := h) (hf := hf) hx
  rwa [Nat.zero_add] at this
theorem pur_fieldAddr_rp {xt i off n k j o : Nat} {l : List AV} {g : Bool} [hf : TFld P xt i off n g] (hx : evalA tm x = some (.rp k l j o)) : PurV P ⟨d, .fieldAddr xt x i, ty, pos, af, gd⟩ tm h (.rp k l j (o + off)) := fun m a w0 ht g1 g2 => by
  obtain ⟨fs, f, h1, h2, h3, h4, h5⟩ := fldQ_spec hf.h
  have hx := ht.eval hx
  simp only [Rel] at hx
  obtain ⟨b, o', hx, hj, hw⟩ := hx
  refine ⟨.pointer (some ⟨b, o' + (j * k + (o + off)), none⟩), by simp only [Rel]; exact ⟨b, o', rfl, hj, hw⟩, fun w => ?_⟩
  simp [execOp, hx, Instr.fieldAt, run_underlying h1, h2, Instr.sureAddr, run_fieldPlace h4 h5, h3, Nat.add_assoc]
theorem pur_fieldAddr_ep {xt i off n k j o : Nat} {v : Value} {g : Bool} [hf : TFld P xt i off n g] (hx : evalA tm x = some (.ep v k j o)) : PurV P ⟨d, .fieldAddr xt x i, ty, pos, af, gd⟩ tm h (.ep v k j (o + off)) := fun m a w0 ht g1 g2 => by
  obtain ⟨fs, f, h1, h2, h3, h4, h5⟩ := fldQ_spec hf.h
  have hx := ht.eval hx
  simp only [Rel] at hx
  obtain ⟨b, N, cap, hx, hj, hw⟩ := hx
  refine ⟨.pointer (some ⟨b, j * k + (o + off), none⟩), by simp only [Rel]; exact ⟨b, N, cap, rfl, hj, hw⟩, fun w => ?_⟩
  simp [execOp, hx, Instr.fieldAt, run_underlying h1, h2, Instr.sureAddr, run_fieldPlace h4 h5, h3, Nat.add_assoc]
/-! Loads -/
theorem pur_load_box {lt n b o bt : Nat} {g : Bool} {l : List AV} {v : AV} [hv : TVal P lt g n] (hx : evalA tm x = some (.val (.pointer (some ⟨b, o, none⟩)))) (hb : OE.box b l bt ∈ h) (hl : loadA g n l o = some v) :
    Pur P ⟨d, .load lt x, ty, pos, af, gd⟩ tm h v := fun m a w0 ht g1 g2 => by
  obtain ⟨_, cs, q3, q4⟩ := g2.2 _ hb
  obtain ⟨h6, h7⟩ := mk_rel q4 hl (valQ_spec hv.h).2.2
  refine ⟨_, h6, fun w _ hw => ?_⟩
  have q3' := (hw _ hb b rfl).trans q3
  simp [execOp, eval_val ht hx, Instr.loadAt, Instr.sureAddr, run_loadVar' hv.h q3' (by simpa using h7)]
theorem relE_load {m : Ghost} {k i off n : Nat} {g : Bool} {l : List AV} {xs : List Value} {e v : AV} (h : RelE m k l xs) (he : l[i]? = some e) (hl : loadA g n e.cells off = some v) (hn : g = false → n = 1) :
    Rel m v (mk g ((xs.drop (i * k + off)).take n)) ∧ i * k + off + n ≤ xs.length := by
  obtain ⟨u, h1, h2, h3⟩ := h.at i e he
  have h4 := h1.cells
  obtain ⟨h6, h7⟩ := mk_rel h4 hl hn
  have hlen := h.length
  have hi := (List.getElem?_eq_some_iff.1 he).1
  have hle : i * k + k ≤ xs.length := by
    rw [hlen, ← Nat.succ_mul]
    exact Nat.mul_le_mul_right _ hi
  rw [Array.length_toList, h2] at h7
  rw [← h3, List.drop_take, List.drop_drop, List.take_take, Nat.min_eq_left (by omega)] at h6
  exact ⟨h6, by omega⟩
theorem pur_load_ep {lt n k i o e : Nat} {g : Bool} {l : List AV} {v el : AV} {s : Value} [hv : TVal P lt g n] (hx : evalA tm x = some (.ep s k i o)) (hb : OE.own s k l e ∈ h) (he : l[i]? = some el) (hl : loadA g n el.cells o = some v) :
    Pur P ⟨d, .load lt x, ty, pos, af, gd⟩ tm h v := fun m a w0 ht g1 g2 => by
  have hx := ht.eval hx
  simp only [Rel] at hx
  obtain ⟨b, N, cap, hx, hs, hi⟩ := hx
  rcases (g2.2 _ hb).2.own_cases with ⟨A, _, rfl⟩ | ⟨g', cap', cur, xs, hs', hc0, q7, q8, q9, q10, q11, q12, q4, q5, q6, _⟩
  · simp at he
  obtain ⟨h6, h7⟩ := relE_load q4 he hl (valQ_spec hv.h).2.2
  rw [hs] at hs'
  injection hs' with hs' _ _
  injection hs' with hs'
  injection hs' with hs'
  subst hs'
  refine ⟨_, h6, fun w _ hw => ?_⟩
  have q7' := (hw _ hb b q6).trans q7
  have hlen : (l.length * k) ≤ cur.size := by rw [q10]; exact Nat.mul_le_mul_right _ q8
  have := run_loadVar' (P := P) (t := lt) (off := i * k + o) hv.h q7' (by omega)
  simp only [execOp, hx, Instr.loadAt, Instr.sureAddr, Sem.run_bind, Sem.run_pure, Result.andThen_ok, this]
  have e2 : (cur.toList.drop (i * k + o)).take n = (xs.drop (i * k + o)).take n := by
    rw [← q11, List.drop_take, List.take_take, Nat.min_eq_left]
    omega
  rw [e2]
theorem pur_load_rp {lt n k i o : Nat} {g : Bool} {l : List AV} {v el : AV} [hv : TVal P lt g n] (hx : evalA tm x = some (.rp k l i o)) (he : l[i]? = some el) (hl : loadA g n el.cells o = some v) :
    Pur P ⟨d, .load lt x, ty, pos, af, gd⟩ tm h v := fun m a w0 ht g1 g2 => by
  have hx := ht.eval hx
  simp only [Rel] at hx
  obtain ⟨b, o', hx, hi, b1, off, cs, e, fr, e1, e2, e3, e4, e5⟩ := hx
  injection e1 with e1
  injection e1 with e1 e1'
  subst e1; subst e1'
  obtain ⟨h6, h7⟩ := relE_load e4 he hl (valQ_spec hv.h).2.2
  have hlen : ((cs.toList.drop o').take (l.length * k)).length = l.length * k := by rw [List.length_take, List.length_drop]; simp; omega
  rw [hlen] at h7
  refine ⟨_, h6, fun w hm _ => ?_⟩
  have := run_loadVar' (P := P) (t := lt) (off := o' + (i * k + o)) hv.h (hm _ _ e2) (by omega)
  simp only [execOp, hx, Instr.loadAt, Instr.sureAddr, Sem.run_bind, Sem.run_pure, Result.andThen_ok, this]
  have e6 : (cs.toList.drop (o' + (i * k + o))).take n = (((cs.toList.drop o').take (l.length * k)).drop (i * k + o)).take n := by
    rw [List.drop_take, List.drop_drop, List.take_take, Nat.min_eq_left (by omega)]
  rw [e6]
end
end Go.VM
