import Derived.Test.YtdknjjgmmmmfjaaW3
import Derived.Test.YtdknjjgmmmmfjaaVM28
import Derived.Laws.BytesString
import Derived.Laws.Strings
/- The bytes of a bitmap, in plain words. No condition. -/
namespace Go.Proofs.Ytdknjjgmmmmfjaa
open Go Go.VM
set_option linter.unusedVariables false
set_option linter.unusedSimpArgs false
def ib (b : Bool) : Int := if b then 1 else 0
/-- A byte of eight places. -/
def byteP (q : Nat → Bool) : Int := ib (q 0) + 2 * ib (q 1) + 4 * ib (q 2) + 8 * ib (q 3) + 16 * ib (q 4) + 32 * ib (q 5) + 64 * ib (q 6) + 128 * ib (q 7)
theorem byteP_congr {q r : Nat → Bool} (h : ∀ k, k < 8 → q k = r k) : byteP q = byteP r := by
  unfold byteP
  rw [h 0 (by omega), h 1 (by omega), h 2 (by omega), h 3 (by omega), h 4 (by omega), h 5 (by omega), h 6 (by omega), h 7 (by omega)]
theorem ib_in (b : Bool) : 0 ≤ ib b ∧ ib b ≤ 1 := by cases b <;> decide
theorem byte_in (q : Nat → Bool) : 0 ≤ byteP q ∧ byteP q ≤ 255 := by
  have h0 := ib_in (q 0); have h1 := ib_in (q 1); have h2 := ib_in (q 2); have h3 := ib_in (q 3); have h4 := ib_in (q 4); have h5 := ib_in (q 5); have h6 := ib_in (q 6); have h7 := ib_in (q 7)
  unfold byteP; omega
theorem or_bit : (List.range 256).all (fun a => (List.range 8).all fun k => bitsI .or .u8 (a : Int) ((2 ^ k : Nat) : Int) == if a / 2 ^ k % 2 = 1 then (a : Int) else (a : Int) + ((2 ^ k : Nat) : Int)) = true := by decide +kernel
theorem or_byte {q : Nat → Bool} {k : Nat} (hk : k < 8) : bitsI .or .u8 (byteP q) ((2 ^ k : Nat) : Int) = byteP fun j => q j || j == k := by
  have hb := byte_in q
  have h := List.all_eq_true.1 (List.all_eq_true.1 or_bit (byteP q).toNat (List.mem_range.2 (by omega))) k (List.mem_range.2 hk)
  rw [Int.toNat_of_nonneg hb.1] at h
  have h := (beq_iff_eq.1 h)
  rw [h]
  have e : ((byteP q).toNat : Int) = byteP q := Int.toNat_of_nonneg hb.1
  generalize hm : (byteP q).toNat = m at *
  have h0 := ib_in (q 0); have h1 := ib_in (q 1); have h2 := ib_in (q 2); have h3 := ib_in (q 3); have h4 := ib_in (q 4); have h5 := ib_in (q 5); have h6 := ib_in (q 6); have h7 := ib_in (q 7)
  unfold byteP at *
  rcases (by omega : k = 0 ∨ k = 1 ∨ k = 2 ∨ k = 3 ∨ k = 4 ∨ k = 5 ∨ k = 6 ∨ k = 7) with rfl | rfl | rfl | rfl | rfl | rfl | rfl | rfl
  · cases hq : q 0 <;> simp [hq, ib] at * <;> omega
  · cases hq : q 1 <;> simp [hq, ib] at * <;> omega
  · cases hq : q 2 <;> simp [hq, ib] at * <;> omega
  · cases hq : q 3 <;> simp [hq, ib] at * <;> omega
  · cases hq : q 4 <;> simp [hq, ib] at * <;> omega
  · cases hq : q 5 <;> simp [hq, ib] at * <;> omega
  · cases hq : q 6 <;> simp [hq, ib] at * <;> omega
  · cases hq : q 7 <;> simp [hq, ib] at * <;> omega
/-- A bitmap's bytes, n a row, h rows. -/
def cellB (n : Nat) (p : Int → Int → Bool) (i : Nat) : Int := byteP fun k => p ((8 * (i % n) + k : Nat) : Int) ((i / n : Nat) : Int)
def bytesF (n h : Nat) (p : Int → Int → Bool) : List Int := (List.range (n * h)).map (cellB n p)
theorem bytes_len (n h : Nat) (p : Int → Int → Bool) : (bytesF n h p).length = n * h := by unfold bytesF; simp
theorem bytes_at {n h i : Nat} {p : Int → Int → Bool} (hi : i < n * h) : (bytesF n h p)[i]? = some (cellB n p i) := by unfold bytesF; simp [hi]
theorem bytes_congr {n h : Nat} {p q : Int → Int → Bool} (e : ∀ x y : Nat, x < 8 * n → y < h → p x y = q x y) : bytesF n h p = bytesF n h q := by
  apply List.ext_getElem?
  intro i
  by_cases hi : i < n * h
  · rw [bytes_at hi, bytes_at hi]
    have hn : 0 < n := Nat.pos_of_ne_zero fun z => by subst z; simp at hi
    have h1 : i % n < n := Nat.mod_lt _ hn
    have h2 : i / n < h := (Nat.div_lt_iff_lt_mul hn).2 (by rw [Nat.mul_comm]; exact hi)
    unfold cellB byteP
    simp only [e _ _ (show 8 * (i % n) + 0 < 8 * n by omega) h2, e _ _ (show 8 * (i % n) + 1 < 8 * n by omega) h2, e _ _ (show 8 * (i % n) + 2 < 8 * n by omega) h2, e _ _ (show 8 * (i % n) + 3 < 8 * n by omega) h2, e _ _ (show 8 * (i % n) + 4 < 8 * n by omega) h2, e _ _ (show 8 * (i % n) + 5 < 8 * n by omega) h2, e _ _ (show 8 * (i % n) + 6 < 8 * n by omega) h2, e _ _ (show 8 * (i % n) + 7 < 8 * n by omega) h2]
  · rw [List.getElem?_eq_none (by rw [bytes_len]; omega), List.getElem?_eq_none (by rw [bytes_len]; omega)]
/-- One place more. -/
def orP (p : Int → Int → Bool) (x y : Int) : Int → Int → Bool := fun a b => p a b || (decide (a = x) && decide (b = y))
theorem bytes_or {n h x y : Nat} {p : Int → Int → Bool} (hx : x < 8 * n) (hy : y < h) :
    y * n + x / 8 < n * h ∧ bytesF n h (orP p x y) = (bytesF n h p).set (y * n + x / 8) (bitsI .or .u8 (cellB n p (y * n + x / 8)) ((2 ^ (x % 8) : Nat) : Int)) := by
  have hx8 : x / 8 < n := by omega
  have hn : 0 < n := by omega
  have hlt : y * n + x / 8 < n * h := by
    have : (y + 1) * n ≤ h * n := Nat.mul_le_mul_right _ hy
    rw [Nat.add_mul, Nat.one_mul] at this
    rw [Nat.mul_comm n h]; omega
  refine ⟨hlt, ?_⟩
  have e1 : (y * n + x / 8) % n = x / 8 := by rw [Nat.mul_comm, Nat.mul_add_mod, Nat.mod_eq_of_lt hx8]
  have e2 : (y * n + x / 8) / n = y := by rw [Nat.mul_comm, Nat.mul_add_div hn, Nat.div_eq_of_lt hx8]; rfl
  apply List.ext_getElem?
  intro i
  by_cases hi : i < n * h
  · rw [bytes_at hi, List.getElem?_set]
    by_cases c : y * n + x / 8 = i
    · subst c
      rw [if_pos rfl, if_pos (by rw [bytes_len]; exact hi)]
      congr 1
      unfold cellB
      rw [or_byte (Nat.mod_lt _ (by decide)), e1, e2]
      congr 1
      funext k
      unfold orP
      congr 1
      rw [Bool.eq_iff_iff]
      simp only [Bool.and_eq_true, decide_eq_true_eq, beq_iff_eq]
      constructor
      · rintro ⟨h1, _⟩; omega
      · intro h1; exact ⟨by omega, trivial⟩
    · rw [if_neg c, bytes_at hi]
      congr 1
      unfold cellB
      refine byteP_congr fun k hk => ?_
      unfold orP
      have : ¬ (((8 * (i % n) + k : Nat) : Int) = x ∧ ((i / n : Nat) : Int) = y) := by
        rintro ⟨h1, h2⟩
        have h3 := Nat.div_add_mod i n
        have h4 : i % n = x / 8 := by omega
        have h5 : i / n = y := by omega
        rw [h4, h5, Nat.mul_comm] at h3
        omega
      rw [← Bool.decide_and, decide_eq_false this, Bool.or_false]
  · rw [List.getElem?_eq_none (by rw [bytes_len]; omega), List.getElem?_eq_none (by rw [List.length_set, bytes_len]; omega)]
end Go.Proofs.Ytdknjjgmmmmfjaa

/- Strings: of bytes, and one behind the other. No condition. -/
namespace Go.VM
open Go
set_option linter.unusedVariables false
set_option linter.unusedSimpArgs false
class TBytes (P : Program) (t e : Nat) : Prop where
  h : P.underlying t = some (.slice e)
  he : P.underlying e = some (.int .u8)
/-- The string of some bytes. -/
def strB (ns : List Int) : ByteArray := ns.foldl (fun r n => r.push (UInt8.ofNat n.toNat)) ByteArray.empty
theorem relE_bytes {m : Ghost} : ∀ {ns : List Int} {ys : List Value}, RelE m 1 (ints .u8 ns) ys → ys = ns.map (Value.int .u8)
  | [], ys, h => by simpa [ints, RelE] using h
  | n :: ns, ys, h => by
    simp only [ints, List.map_cons, RelE, Rel] at h
    obtain ⟨v, r, rfl, h1, ⟨rfl, _⟩, h2⟩ := h
    rw [relE_bytes (ns := ns) h2]
    rfl
section
variable {P : Program} {tm : List (Nat × AV)} {h : Heap} {d : Option Nat} {x y : Operand} {ty : TypeId} {pos : String} {af : Array Edge} {gd : Option (Nat × Bool)}
theorem pur_b2s {st dt e : Nat} {ns : List Int} [hb : TBytes P st e] [hs : TStr P dt] (hx : evalA tm x = some (.ro 1 (ints .u8 ns))) : Pur P ⟨d, .convert st dt x, ty, pos, af, gd⟩ tm h (.val (.string (strB ns))) := fun m a w0 ht g1 g2 => by
  have hx := ht.eval hx
  simp only [Rel] at hx
  obtain ⟨A, c, hx, h1, h2, h3, h4⟩ := hx
  refine ⟨_, rel_val rfl, fun w hm _ => ?_⟩
  have e1 : (execOp a.eval (⟨d, .convert st dt x, ty, pos, af, gd⟩ : Oper)).run P w = ((Conv.bytesToString (.slice A (ints .u8 ns).length c)).run P w).andThen fun v w' => .ok (.value v) w' := by
    simp only [execOp, hx]
    rw [Sem.run_bind, run_convert_bytes_string w st dt e A _ c hb.h hb.he hs.h]
    rfl
  have e2 : (Conv.bytesToString (.slice A (ints .u8 ns).length c)).run P w = .ok (.string (strB ns)) w := by
    by_cases hn : ns = []
    · subst hn
      cases A with
      | none => rfl
      | some a => exact run_bytesToString w a 0 c [] (by simp [loadCells, loadCellsFrom])
    · obtain ⟨b, off, cs, e', fr, rfl, k1, k2, k3, _⟩ := h4 (by simpa [ints] using hn)
      have hk := relE_bytes k3
      refine run_bytesToString w ⟨b, off, none⟩ _ c ns ?_
      have := run_loadCells_list (P := P) (w := w) ⟨b, off, none⟩ (ns.map (Value.int .u8)) (fun j u hu => by
        rw [add_mk', cell_of (hm _ _ k1)]
        rw [← hk, List.getElem?_take] at hu
        split at hu
        · rw [List.getElem?_drop] at hu; simpa using hu
        · cases hu)
      simpa [ints] using this
  rw [e1, e2]; rfl
theorem pur_cat {s t : ByteArray} {xt yt : Nat} (hx : evalA tm x = some (.val (.string s))) (hy : evalA tm y = some (.val (.string t))) (hl : s.size + t.size ≤ 1000000000) : PurV P ⟨d, .binOp .add xt x y yt, ty, pos, af, gd⟩ tm h (.val (.string (s ++ t))) :=
  pur_val fun m ac ht w => by
    have : ¬ (((s.size + t.size : Nat) : Int) > IntKind.i64.max) := by simp [IntKind.max, IntKind.bits]; omega
    simp [execOp, eval_val ht hx, eval_val ht hy, eqGuard, binOp, Op.stringOp, this]
    omega
end
end Go.VM

/- Strings compared; bytes divided. No condition. -/
namespace Go.VM
open Go
set_option linter.unusedVariables false
set_option linter.unusedSimpArgs false
theorem ba_beq (a b : ByteArray) : (a.toList == b.toList) = decide (a = b) := by
  rw [ByteArray.toList_eq, ByteArray.toList_eq]
  by_cases h : a = b
  · subst h; simp
  · rw [decide_eq_false h]
    refine beq_eq_false_iff_ne.2 fun e => h ?_
    obtain ⟨x⟩ := a
    obtain ⟨y⟩ := b
    exact congrArg ByteArray.mk (Array.ext' e)
section
variable {P : Program} {tm : List (Nat × AV)} {h : Heap} {d : Option Nat} {x y : Operand} {xt yt ty : Nat} {pos : String} {af : Array Edge} {gd : Option (Nat × Bool)}
theorem pur_eqstr {a b : ByteArray} (hx : evalA tm x = some (.val (.string a))) (hy : evalA tm y = some (.val (.string b))) : PurV P ⟨d, .binOp .eql xt x y yt, ty, pos, af, gd⟩ tm h (.val (.bool (decide (a = b)))) :=
  pur_val fun m ac ht w => by
    simp [execOp, eval_val ht hx, eval_val ht hy, eqGuard, binOp, Op.stringOp, ba_beq]
theorem pur_neqstr {a b : ByteArray} (hx : evalA tm x = some (.val (.string a))) (hy : evalA tm y = some (.val (.string b))) : PurV P ⟨d, .binOp .neq xt x y yt, ty, pos, af, gd⟩ tm h (.val (.bool (decide (a ≠ b)))) :=
  pur_val fun m ac ht w => by
    simp [execOp, eval_val ht hx, eval_val ht hy, eqGuard, binOp, Op.stringOp, ba_beq]
theorem pur_eqstr_t {a b : ByteArray} (hx : evalA tm x = some (.val (.string a))) (hy : evalA tm y = some (.val (.string b))) (e : a = b) : PurV P ⟨d, .binOp .eql xt x y yt, ty, pos, af, gd⟩ tm h (.val (.bool true)) := by
  have := pur_eqstr (P := P) (xt := xt) (yt := yt) (d := d) (ty := ty) (pos := pos) (af := af) (gd := gd) (h := h) hx hy
  rwa [decide_eq_true e] at this
theorem pur_neqstr_f {a b : ByteArray} (hx : evalA tm x = some (.val (.string a))) (hy : evalA tm y = some (.val (.string b))) (e : a = b) : PurV P ⟨d, .binOp .neq xt x y yt, ty, pos, af, gd⟩ tm h (.val (.bool false)) := by
  have := pur_neqstr (P := P) (xt := xt) (yt := yt) (d := d) (ty := ty) (pos := pos) (af := af) (gd := gd) (h := h) hx hy
  rwa [decide_eq_false (fun k => k e)] at this
end
theorem wrap_quo8 {a b : Int} (h1 : 0 ≤ a) (h2 : 0 < b) (h : a ≤ 255) : IntKind.u8.wrap (a.tdiv b) = a / b := by
  rw [Int.tdiv_eq_ediv_of_nonneg h1]
  have := Int.ediv_nonneg h1 (by omega : 0 ≤ b)
  have := Int.ediv_le_self b h1
  exact wrap_u8 (by omega) (by omega)
end Go.VM
