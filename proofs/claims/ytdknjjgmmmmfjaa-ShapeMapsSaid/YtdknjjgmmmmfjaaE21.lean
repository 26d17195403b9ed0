/- Bitmaps as strings, in plain words: their bytes, their places. No condition. -/
import Derived.Test.YtdknjjgmmmmfjaaVM34
namespace Go.Proofs.Ytdknjjgmmmmfjaa
open Go Go.VM
set_option linter.unusedVariables false
set_option linter.unusedSimpArgs false
theorem byte_v : (List.range 256).all (fun v => byteP (fun k => v / 2 ^ k % 2 == 1) == (v : Int)) = true := by decide +kernel
theorem byte_val {v : Nat} (h : v < 256) : byteP (fun k => v / 2 ^ k % 2 == 1) = (v : Int) := by
  have := List.all_eq_true.1 byte_v v (List.mem_range.2 h)
  simpa using this
theorem byte_bits8 : ∀ a b c d e f g i : Bool, ((List.range 8).all fun k => ((ib a + 2 * ib b + 4 * ib c + 8 * ib d + 16 * ib e + 32 * ib f + 64 * ib g + 128 * ib i).toNat / 2 ^ k % 2 == 1) == [a, b, c, d, e, f, g, i].getD k false) = true := by decide +kernel
theorem byte_bit (q : Nat → Bool) {k : Nat} (hk : k < 8) : ((byteP q).toNat / 2 ^ k % 2 == 1) = q k := by
  have h := List.all_eq_true.1 (byte_bits8 (q 0) (q 1) (q 2) (q 3) (q 4) (q 5) (q 6) (q 7)) k (List.mem_range.2 hk)
  rw [beq_iff_eq] at h
  unfold byteP
  rw [h]
  rcases (by omega : k = 0 ∨ k = 1 ∨ k = 2 ∨ k = 3 ∨ k = 4 ∨ k = 5 ∨ k = 6 ∨ k = 7) with rfl | rfl | rfl | rfl | rfl | rfl | rfl | rfl <;> rfl
/-! strings of bytes -/
theorem strB_fold (ns : List Int) : ∀ b : ByteArray, (ns.foldl (fun r n => r.push (UInt8.ofNat n.toNat)) b).data.toList = b.data.toList ++ ns.map fun n => UInt8.ofNat n.toNat := by
  induction ns with
  | nil => intro b; simp
  | cons n ns ih => intro b; rw [List.foldl_cons, ih]; simp [ByteArray.push]
theorem strB_list (ns : List Int) : (strB ns).data.toList = ns.map fun n => UInt8.ofNat n.toNat := by
  unfold strB; rw [strB_fold]; rfl
theorem ba_ext {a b : ByteArray} (h : a.data.toList = b.data.toList) : a = b := by
  cases a; cases b
  simp only at h
  congr 1
  exact Array.ext' h
theorem strB_app (ns ms : List Int) : strB (ns ++ ms) = strB ns ++ strB ms := by
  apply ba_ext
  rw [strB_list, List.map_append, ByteArray.data_append, Array.toList_append, strB_list, strB_list]
theorem strB_size (ns : List Int) : (strB ns).size = ns.length := by
  have := congrArg List.length (strB_list ns)
  rw [List.length_map] at this
  exact this
theorem strB_at (ns : List Int) (i : Nat) : (strB ns)[i]? = (ns[i]?).map fun n => UInt8.ofNat n.toNat := by
  have h : (strB ns).data.toList[i]? = (ns[i]?).map fun n => UInt8.ofNat n.toNat := by rw [strB_list, List.getElem?_map]
  rw [← h]
  by_cases hi : i < (strB ns).size
  · rw [getElem?_pos (strB ns) i hi, List.getElem?_eq_getElem (by simpa using hi)]
    rfl
  · rw [getElem?_neg (strB ns) i hi, List.getElem?_eq_none (by simpa using hi)]
theorem bt_str {ns : List Int} {i : Nat} {n : Int} (h : ns[i]? = some n) (hn : 0 ≤ n ∧ n ≤ 255) : (bt (strB ns) i : Int) = n := by
  unfold bt
  rw [strB_at, h]
  simp only [Option.map_some, Option.getD_some]
  rw [UInt8.toNat_ofNat']
  omega
theorem str_self (s : ByteArray) : strB ((List.range s.size).map fun i => (bt s i : Int)) = s := by
  apply ba_ext
  rw [strB_list]
  apply List.ext_getElem?
  intro i
  rw [List.getElem?_map, List.getElem?_map]
  by_cases hi : i < s.size
  · rw [List.getElem?_range hi, List.getElem?_eq_getElem (by simpa using hi)]
    simp only [Option.map_some, Int.toNat_natCast]
    congr 1
    have : s[i]? = some s[i] := getElem?_pos s i hi
    rw [← bt_at this]
    simp
    rfl
  · rw [List.getElem?_eq_none (by simpa using hi), List.getElem?_eq_none (by simpa using hi)]
    rfl
/-! the places whose bits are 1 -/
theorem bit_lin {st x y : Nat} (hx : x < 8 * st) : ptP st (8 * st * y + x) = (x, y) := by
  have hst : 0 < st := by omega
  unfold ptP
  have e1 : (8 * st * y + x) / 8 = st * y + x / 8 := by rw [Nat.mul_assoc, Nat.mul_add_div (by decide)]
  have e2 : (8 * st * y + x) % 8 = x % 8 := by rw [Nat.mul_assoc, Nat.mul_add_mod]
  rw [e1, e2, Nat.mul_add_mod, Nat.mul_add_div hst, Nat.mod_eq_of_lt (by omega : x / 8 < st), Nat.div_eq_of_lt (by omega : x / 8 < st)]
  congr 1
  omega
theorem lin_pt {st q : Nat} (hst : 0 < st) : 8 * st * (ptP st q).2 + (ptP st q).1 = q ∧ (ptP st q).1 < 8 * st := by
  unfold ptP
  dsimp only
  have h1 := Nat.div_add_mod (q / 8) st
  have h2 := Nat.mod_lt (q / 8) hst
  rw [Nat.mul_assoc]
  generalize st * (q / 8 / st) = A at *
  omega
theorem pt_row {st q h : Nat} (hq : q < 8 * (st * h)) (hst : 0 < st) : (ptP st q).2 < h := by
  unfold ptP
  dsimp only
  rw [Nat.div_lt_iff_lt_mul hst, Nat.mul_comm]
  omega
theorem ones_mem {s : ByteArray} {st n : Nat} {x y : Nat} (hx : x < 8 * st) : (x, y) ∈ onesP s st n ↔ 8 * st * y + x < n ∧ bitP s (8 * st * y + x) = 1 := by
  constructor
  · intro h
    obtain ⟨q, hq, e, hb⟩ := onesP_mem h
    have := lin_pt (st := st) (q := q) (by omega)
    rw [← e] at this
    dsimp only at this
    rw [this.1]
    exact ⟨hq, hb⟩
  · rintro ⟨h1, h2⟩
    unfold onesP
    refine List.mem_flatMap.2 ⟨_, List.mem_range.2 h1, ?_⟩
    rw [if_pos h2, bit_lin hx]
    exact List.mem_singleton.2 rfl
/-! what the rectangles of a bitmap have -/
def one1 (p : Nat × Nat) : RC := ⟨p.1, p.2, 1, 1⟩
theorem one_has {p : Nat × Nat} (hp : p.1 ≤ 100000 ∧ p.2 ≤ 100000) (x y : Int) : (decide (one1 p).cnt && decide ((one1 p).has x y)) = decide (x = p.1 ∧ y = p.2) := by
  rw [← Bool.decide_and]
  refine decide_eq_decide.2 ?_
  unfold RC.cnt fitP RC.has one1
  dsimp only
  omega
theorem hasF_app (L M : List RC) (x y : Int) : hasF (L ++ M) x y = (hasF L x y || hasF M x y) := by unfold hasF; rw [List.any_append]
theorem hasF_one (r : RC) (x y : Int) : hasF [r] x y = (decide r.cnt && decide (r.has x y)) := by unfold hasF; simp
theorem ones_has : ∀ {xs : List (Nat × Nat)}, (∀ p ∈ xs, p.1 ≤ 100000 ∧ p.2 ≤ 100000) → ∀ x y : Int, hasF (xs.map one1) x y = true ↔ ∃ p ∈ xs, x = (p.1 : Nat) ∧ y = (p.2 : Nat)
  | [], _, x, y => by simp [hasF]
  | p :: xs, h, x, y => by
    rw [List.map_cons, show one1 p :: xs.map one1 = [one1 p] ++ xs.map one1 from rfl, hasF_app, hasF_one, one_has (h p (.head _)), Bool.or_eq_true, ones_has (fun q hq => h q (.tail _ hq)), decide_eq_true_iff]
    simp
theorem listO_has {n : Nat} : ∀ (m : Nat) {xs : List (Nat × Nat)}, xs.length = m → m ≤ n → n ≤ 900000 → (∀ p ∈ xs, p.1 ≤ 100000 ∧ p.2 ≤ 100000) → ∀ x y : Int, hasF (listO xs) x y = hasF (xs.map one1) x y
  | 0, xs, h, _, _, _, x, y => by
    have : xs = [] := List.length_eq_zero_iff.1 h
    subst this; rfl
  | m + 1, xs, h, hm, hn, hp, x, y => by
    have hne : xs ≠ [] := by rintro rfl; cases h
    obtain ⟨ys, p, rfl⟩ : ∃ ys p, xs = ys ++ [p] := ⟨xs.dropLast, xs.getLast hne, (List.dropLast_concat_getLast hne).symm⟩
    rw [List.length_append, List.length_singleton] at h
    have hys := fun q hq => hp q (List.mem_append_left _ hq)
    have hpp := hp p (by simp)
    have ih := listO_has (n := n) m (xs := ys) (by omega) (by omega) hn hys
    have hO : SmO m (listO ys) := listO_sm (by omega) hys
    rw [listO_snoc, List.map_append, hasF_app, ← ih, List.map_singleton, hasF_one]
    unfold stepL
    split
    · rename_i q hq
      split
      · rename_i hc
        obtain ⟨zs, hz⟩ := List.getLast?_eq_some_iff.1 hq
        have hs := hO.sm q (by rw [hz]; simp)
        rw [hz, List.length_append, List.length_singleton, Nat.add_sub_cancel, List.set_append_right _ _ (Nat.le_refl _), Nat.sub_self, List.set_cons_zero, hasF_app, hasF_app, hasF_one, hasF_one, one_has hpp, Bool.or_assoc]
        congr 1
        rw [← Bool.decide_and, ← Bool.decide_and, ← Bool.decide_or]
        refine decide_eq_decide.2 ?_
        obtain ⟨h1, h2⟩ := hc
        unfold RC.cnt fitP RC.has
        dsimp only
        omega
      · rw [hasF_app, hasF_one]; rfl
    · rw [hasF_app, hasF_one]; rfl
end Go.Proofs.Ytdknjjgmmmmfjaa
