import Derived.Test.YtdknjjgmmmmfjaaW2
import Derived.Test.YtdknjjgmmmmfjaaVM28
/- shape.ones: the places whose bits are 1. No condition. -/
namespace Go.Proofs.Ytdknjjgmmmmfjaa
open Go Go.VM
attribute [local irreducible] PurV Pur Step RL W D ACalls Then InBlock Fini
set_option linter.unusedVariables false
set_option linter.unusedSimpArgs false
set_option maxHeartbeats 20000000
instance : TFun Try.prog 73 := ⟨by kernel_rfl⟩
set_option maxRecDepth 100000 in
theorem ones_c (s : ByteArray) (st : Nat) (h : Heap) : ACalls Try.prog 52 [.val (.int .i64 (st : Nat)), .val (.string s)] h (fun r h' => ∃ g1 g2, r = .clo (.func 73) [.val (.pointer (some ⟨g1, 0, none⟩)), .val (.pointer (some ⟨g2, 0, none⟩))] ∧ h' = .box g1 [.val (.string s)] 9 :: .box g2 [.val (.int .i64 (st : Nat))] 3 :: h) := by
  refine ACalls.intro Try.func52 rfl Try.ntmps52 Try.results52 (Nat.le_of_ble_eq_true rfl) ?_
  (repeat' (first | (refine iS ?_; refine iMu ?_; refine S.mapU ?_) | refine svz ⟨fun b hq => ?_⟩ | refine sv1 ?_ | refine svs ⟨?_⟩ | refine svu ⟨fun u => ?_⟩ | (refine svg (fun hg => ?_) (fun hg => ?_) <;> try (exfalso; first | omega | contradiction)) | (refine svc (fun hc => ?_) (fun hc => ?_) <;> try (exfalso; first | omega | contradiction)) | refine sv2 ?_ | refine svh (fun hb => ?_) (fun hb => ?_) | refine svb (fun b => ?_) | refine sva ?_ | refine sv3 ?_))
  rename_i b2
  exact fin_r (h' := _) ⟨b, b2, rfl, rfl⟩
/-- The byte at i. -/
def bt (s : ByteArray) (i : Nat) : Nat := ((s[i]?).map (·.toNat)).getD 0
theorem bt_lt (s : ByteArray) (i : Nat) : bt s i < 256 := by
  unfold bt
  cases s[i]? with
  | none => decide
  | some c => exact c.toNat_lt
theorem bt_at {s : ByteArray} {i : Nat} {c : UInt8} (h : s[i]? = some c) : c.toNat = bt s i := by unfold bt; rw [h]; rfl
theorem byte_at {s : ByteArray} {i : Nat} (h : i < s.size) : ∃ c, s[i]? = some c := ⟨s[i], by rw [getElem?_pos s i h]⟩
def bitP (s : ByteArray) (q : Nat) : Nat := bt s (q / 8) / 2 ^ (q % 8) % 2
def ptP (st q : Nat) : Nat × Nat := (q / 8 % st * 8 + q % 8, q / 8 / st)
def onesP (s : ByteArray) (st n : Nat) : List (Nat × Nat) := (List.range n).flatMap fun q => if bitP s q = 1 then [ptP st q] else []
theorem onesP_succ (s : ByteArray) (st n : Nat) : onesP s st (n + 1) = onesP s st n ++ if bitP s n = 1 then [ptP st n] else [] := by
  unfold onesP
  rw [List.range_succ, List.flatMap_append]
  simp only [List.flatMap_cons, List.flatMap_nil, List.append_nil]
theorem onesP_pre (s : ByteArray) (st j : Nat) : ∀ m, ∃ t, onesP s st (j + m) = onesP s st j ++ t
  | 0 => ⟨[], by simp⟩
  | m + 1 => by
    obtain ⟨t, e⟩ := onesP_pre s st j m
    rw [← Nat.add_assoc, onesP_succ, e, List.append_assoc]
    exact ⟨_, rfl⟩
theorem onesP_at {s : ByteArray} {st n j : Nat} (hj : j < n) (h : bitP s j = 1) : (onesP s st n)[(onesP s st j).length]? = some (ptP st j) := by
  obtain ⟨t, e⟩ := onesP_pre s st (j + 1) (n - (j + 1))
  rw [show j + 1 + (n - (j + 1)) = n by omega, onesP_succ, if_pos h] at e
  rw [e, List.append_assoc, List.getElem?_append_right (Nat.le_refl _), Nat.sub_self]
  rfl
theorem and_one {a : Nat} (h : a < 256) : bitsI .and .u8 (a : Int) 1 = ((a % 2 : Nat) : Int) := by
  have := List.all_eq_true.1 (show (List.range 256).all (fun a => bitsI .and .u8 (a : Int) 1 == ((a % 2 : Nat) : Int)) = true by decide +kernel) a (List.mem_range.2 h)
  simpa using this
theorem shr_j {a j : Nat} (hj : j < 8) : (a : Int).fdiv (2 ^ (min ((j : Int).toNat) (IntKind.u8).bits)) = ((a / 2 ^ j : Nat) : Int) := by
  rw [show min ((j : Int).toNat) (IntKind.u8).bits = j by simp [IntKind.bits]; omega]
  rw [Int.fdiv_eq_ediv_of_nonneg _ (Int.pow_nonneg (by decide))]
  push_cast
  rfl
set_option maxRecDepth 100000 in
theorem ones_iter (s : ByteArray) (st g1 g2 : Nat) (hs : s.size ≤ 1000000000) (hst : 0 < st ∧ st ≤ 1000000) : Iter Try.prog 73 [.val (.pointer (some ⟨g1, 0, none⟩)), .val (.pointer (some ⟨g2, 0, none⟩))] [.box g1 [.val (.string s)] 9, .box g2 [.val (.int .i64 (st : Nat))] 3] ((onesP s st (8 * s.size)).map fun p => [.val (.int .i64 (p.1 : Nat)), .val (.int .i64 (p.2 : Nat))]) := by
  intro lp R Z hy h h0
  refine ACalls.intro Try.func73 rfl Try.ntmps73 Try.results73 (Nat.le_of_ble_eq_true rfl) ?_
  show W none _ _ _ ⟨_, _, .box g1 [.val (.string s)] 9 :: .box g2 [.val (.int .i64 (st : Nat))] 3 :: h⟩
  (repeat' (first | (refine iS ?_; refine iMu ?_; refine S.mapU ?_) | refine svz ⟨fun b hq => ?_⟩ | refine sv1 ?_ | refine svs ⟨?_⟩ | refine svu ⟨fun u => ?_⟩ | (refine svg (fun hg => ?_) (fun hg => ?_) <;> try (exfalso; first | omega | contradiction)) | (refine svc (fun hc => ?_) (fun hc => ?_) <;> try (exfalso; first | omega | contradiction)) | refine sv2 ?_ | refine svh (fun hb => ?_) (fun hb => ?_) | refine svb (fun b => ?_) | refine sva ?_ | refine sv3 ?_))
  refine W.loop (J := fun q : Nat × Heap => ⟨37, [(4, .val (.int .i64 (q.1 : Int))), (0, .val (.func (.yield lp) #[] #[])), (1, .val (.pointer (some ⟨g1, 0, none⟩))), (2, .val (.pointer (some ⟨g2, 0, none⟩)))], .box g1 [.val (.string s)] 9 :: .box g2 [.val (.int .i64 (st : Nat))] 3 :: q.2⟩)
    (Φ := fun q => q.1 ≤ s.size ∧ R (onesP s st (8 * q.1)).length q.2) (μ := fun q => s.size - q.1) (0, h) lee ⟨Nat.zero_le _, h0⟩ ?_
  rintro ⟨i, hh⟩ ⟨hi, hR⟩
  dsimp only at hi hR ⊢
  rcases Nat.lt_or_ge i s.size with hlt | hge
  · obtain ⟨c, hcc⟩ := byte_at hlt
    have hcb := bt_at hcc
    have hbl := bt_lt s i
    have hq1 : ∀ j, j < 8 → (8 * i + j) / 8 = i := fun j hj => by omega
    have hq2 : ∀ j, j < 8 → (8 * i + j) % 8 = j := fun j hj => by omega
    (repeat' (first | (refine iS ?_; refine iMu ?_; refine S.mapU ?_) | refine svz ⟨fun b hq => ?_⟩ | refine sv1 ?_ | refine svs ⟨?_⟩ | refine svu ⟨fun u => ?_⟩ | (refine svg (fun hg => ?_) (fun hg => ?_) <;> try (exfalso; first | omega | contradiction)) | (refine svc (fun hc => ?_) (fun hc => ?_) <;> try (exfalso; first | omega | contradiction)) | refine sv2 ?_ | refine svh (fun hb => ?_) (fun hb => ?_) | refine svb (fun b => ?_) | refine sva ?_ | refine sv3 ?_))
    refine W.loop (J := fun q : Nat × Heap => ⟨37, [(5, .val (.int .i64 (q.1 : Int))), (4, .val (.int .i64 (i : Int))), (0, .val (.func (.yield lp) #[] #[])), (1, .val (.pointer (some ⟨g1, 0, none⟩))), (2, .val (.pointer (some ⟨g2, 0, none⟩)))], .box g1 [.val (.string s)] 9 :: .box g2 [.val (.int .i64 (st : Nat))] 3 :: q.2⟩)
      (Φ := fun q => q.1 ≤ 8 ∧ R (onesP s st (8 * i + q.1)).length q.2) (μ := fun q => 8 - q.1) (0, hh) lee ⟨by omega, hR⟩ ?_
    rintro ⟨j, hh⟩ ⟨hj, hR⟩
    dsimp only at hj hR ⊢
    rcases Nat.lt_or_ge j 8 with hjl | hjg
    · have hbit : bitP s (8 * i + j) = bt s i / 2 ^ j % 2 := by unfold bitP; rw [hq1 j hjl, hq2 j hjl]
      have hpt : ptP st (8 * i + j) = (i % st * 8 + j, i / st) := by unfold ptP; rw [hq1 j hjl, hq2 j hjl]
      have hsu := onesP_succ s st (8 * i + j)
      have hat := onesP_at (s := s) (st := st) (n := 8 * s.size) (j := 8 * i + j) (by omega)
      have hdl : bt s i / 2 ^ j < 256 := Nat.lt_of_le_of_lt (Nat.div_le_self _ _) hbl
      rw [hbit, hpt] at hsu hat
      have hml : i % st < 1000000 := Nat.lt_of_lt_of_le (Nat.mod_lt _ hst.1) hst.2
      have hdl2 : i / st ≤ i := Nat.div_le_self _ _
      have hrem : Unit → (i : Int).tmod (st : Int) = ((i % st : Nat) : Int) := fun _ => (Int.tmod_eq_emod_of_nonneg (Int.natCast_nonneg i)).trans (Int.natCast_emod i st).symm
      have hquo : Unit → (i : Int).tdiv (st : Int) = ((i / st : Nat) : Int) := fun _ => (Int.tdiv_eq_ediv_of_nonneg (Int.natCast_nonneg i)).trans (Int.natCast_ediv i st).symm
      generalize i % st = m at *
      generalize i / st = dq at *
      by_cases hb1 : bt s i / 2 ^ j % 2 = 1
      · have hb2 : ((bt s i / 2 ^ j % 2 : Nat) : Int) = 1 := by omega
        rw [if_pos hb1] at hsu
        have hat := hat hb1
        (repeat' ((fail_if_success (refine drg ?_)); (first | (refine iS ?_; refine iMu ?_; refine S.mapU ?_) | refine svz ⟨fun b hq => ?_⟩ | refine sv1 ?_ | refine svs ⟨?_⟩ | refine svu ⟨fun u => ?_⟩ | (refine svg (fun hg => ?_) (fun hg => ?_) <;> try (exfalso; first | omega | contradiction)) | (refine svc (fun hc => ?_) (fun hc => ?_) <;> try (exfalso; first | omega | contradiction)) | refine sv2 ?_ | refine svh (fun hb => ?_) (fun hb => ?_) | refine svb (fun b => ?_) | refine sva ?_ | refine sv3 ?_)))
        refine W.dr (.ro (.ro (.done _))) ?_
        (repeat' (first | (refine iS ?_; refine iMu ?_; refine S.mapU ?_) | refine svz ⟨fun b hq => ?_⟩ | refine sv1 ?_ | refine svs ⟨?_⟩ | refine svu ⟨fun u => ?_⟩ | (refine svg (fun hg => ?_) (fun hg => ?_) <;> try (exfalso; first | omega | contradiction)) | (refine svc (fun hc => ?_) (fun hc => ?_) <;> try (exfalso; first | omega | contradiction)) | refine sv2 ?_ | refine svh (fun hb => ?_) (fun hb => ?_) | refine svb (fun b => ?_) | refine sva ?_ | refine sv3 ?_))
        refine R2.T (v := .val (.int .u8 (bt s i : Nat))) ?_ (hp := .l rfl (hcb ▸ (pur_istr rfl rfl (by omega) (by rw [Int.toNat_natCast]; exact hcc)).pur))
        refine R2.T ?_
        refine R2.T (v := .val (.int .u8 ((bt s i / 2 ^ j : Nat) : Int))) ?_ (hp := .vo rfl (pur_shr (k' := .i64) (b := (j : Int)) rfl rfl (by omega) (shr_j hjl)))
        refine R2.T (v := .val (.int .u8 ((bt s i / 2 ^ j % 2 : Nat) : Int))) ?_ (hp := .vo rfl (pur_bits (op := .and) rfl rfl rfl (and_one hdl)))
        refine R2.T ?_
        refine R2.T ?_
        refine R2.T ?_
        refine R2.T ?_
        refine R2.T ?_
        refine R2.T (v := .val (.int .i64 (m : Nat))) ?_ (hp := .vo rfl (pur_rem rfl rfl (by omega) (hrem ())))
        refine R2.T (v := .val (.int .i64 ((m * 8 : Nat) : Int))) ?_ (hp := .vo rfl (pur_mul rfl rfl (by rw [wrap_i64 (by omega) (by omega)]; push_cast; rfl)))
        refine R2.T ?_
        refine R2.T (v := .val (.int .i64 ((m * 8 + j : Nat) : Int))) ?_ (hp := .vo rfl (pur_add rfl rfl (by rw [wrap_i64 (by omega) (by omega)]; push_cast; rfl)))
        refine R2.T ?_
        refine R2.T ?_
        refine R2.T (v := .val (.int .i64 (dq : Nat))) ?_ (hp := .vo rfl (pur_quo rfl rfl (by omega) (by rw [hquo ()]; exact wrap_i64 (by omega) (by omega))))
        have hk : (onesP s st (8 * i + j + 1)).length = (onesP s st (8 * i + j)).length + 1 := by rw [hsu, List.length_append]; rfl
        refine R2.Y ((hy _ _ hh hR (by rw [List.getElem?_map, hat]; rfl)).mono ?_)
        rintro bb h' (⟨rfl, hR'⟩ | ⟨rfl, hZ⟩)
        · rw [← hk] at hR'
          (repeat' (first | (refine iS ?_; refine iMu ?_; refine S.mapU ?_) | refine svz ⟨fun b hq => ?_⟩ | refine sv1 ?_ | refine svs ⟨?_⟩ | refine svu ⟨fun u => ?_⟩ | (refine svg (fun hg => ?_) (fun hg => ?_) <;> try (exfalso; first | omega | contradiction)) | (refine svc (fun hc => ?_) (fun hc => ?_) <;> try (exfalso; first | omega | contradiction)) | refine sv2 ?_ | refine svh (fun hb => ?_) (fun hb => ?_) | refine svb (fun b => ?_) | refine sva ?_ | refine sv3 ?_))
          exact ⟨(j + 1, h'), ⟨hjl, hR'⟩, lee, by dsimp only; omega⟩
        · (repeat' (first | (refine iS ?_; refine iMu ?_; refine S.mapU ?_) | refine svz ⟨fun b hq => ?_⟩ | refine sv1 ?_ | refine svs ⟨?_⟩ | refine svu ⟨fun u => ?_⟩ | (refine svg (fun hg => ?_) (fun hg => ?_) <;> try (exfalso; first | omega | contradiction)) | (refine svc (fun hc => ?_) (fun hc => ?_) <;> try (exfalso; first | omega | contradiction)) | refine sv2 ?_ | refine svh (fun hb => ?_) (fun hb => ?_) | refine svb (fun b => ?_) | refine sva ?_ | refine sv3 ?_))
          exact fin_r (h' := .box g1 [.val (.string s)] 9 :: .box g2 [.val (.int .i64 (st : Nat))] 3 :: h') ⟨h', rfl, .inr hZ⟩
      · have hb2 : ¬ ((bt s i / 2 ^ j % 2 : Nat) : Int) = 1 := by omega
        rw [if_neg hb1, List.append_nil] at hsu
        rw [← hsu] at hR
        (repeat' ((fail_if_success (refine drg ?_)); (first | (refine iS ?_; refine iMu ?_; refine S.mapU ?_) | refine svz ⟨fun b hq => ?_⟩ | refine sv1 ?_ | refine svs ⟨?_⟩ | refine svu ⟨fun u => ?_⟩ | (refine svg (fun hg => ?_) (fun hg => ?_) <;> try (exfalso; first | omega | contradiction)) | (refine svc (fun hc => ?_) (fun hc => ?_) <;> try (exfalso; first | omega | contradiction)) | refine sv2 ?_ | refine svh (fun hb => ?_) (fun hb => ?_) | refine svb (fun b => ?_) | refine sva ?_ | refine sv3 ?_)))
        refine W.dr (.ro (.ro (.done _))) ?_
        (repeat' (first | (refine iS ?_; refine iMu ?_; refine S.mapU ?_) | refine svz ⟨fun b hq => ?_⟩ | refine sv1 ?_ | refine svs ⟨?_⟩ | refine svu ⟨fun u => ?_⟩ | (refine svg (fun hg => ?_) (fun hg => ?_) <;> try (exfalso; first | omega | contradiction)) | (refine svc (fun hc => ?_) (fun hc => ?_) <;> try (exfalso; first | omega | contradiction)) | refine sv2 ?_ | refine svh (fun hb => ?_) (fun hb => ?_) | refine svb (fun b => ?_) | refine sva ?_ | refine sv3 ?_))
        refine R2.T (v := .val (.int .u8 (bt s i : Nat))) ?_ (hp := .l rfl (hcb ▸ (pur_istr rfl rfl (by omega) (by rw [Int.toNat_natCast]; exact hcc)).pur))
        refine R2.T ?_
        refine R2.T (v := .val (.int .u8 ((bt s i / 2 ^ j : Nat) : Int))) ?_ (hp := .vo rfl (pur_shr (k' := .i64) (b := (j : Int)) rfl rfl (by omega) (shr_j hjl)))
        refine R2.T (v := .val (.int .u8 ((bt s i / 2 ^ j % 2 : Nat) : Int))) ?_ (hp := .vo rfl (pur_bits (op := .and) rfl rfl rfl (and_one hdl)))
        (repeat' (first | (refine iS ?_; refine iMu ?_; refine S.mapU ?_) | refine svz ⟨fun b hq => ?_⟩ | refine sv1 ?_ | refine svs ⟨?_⟩ | refine svu ⟨fun u => ?_⟩ | (refine svg (fun hg => ?_) (fun hg => ?_) <;> try (exfalso; first | omega | contradiction)) | (refine svc (fun hc => ?_) (fun hc => ?_) <;> try (exfalso; first | omega | contradiction)) | refine sv2 ?_ | refine svh (fun hb => ?_) (fun hb => ?_) | refine svb (fun b => ?_) | refine sva ?_ | refine sv3 ?_))
        exact ⟨(j + 1, hh), ⟨hjl, hR⟩, lee, by dsimp only; omega⟩
    · have e : 8 * i + j = 8 * (i + 1) := by omega
      rw [e] at hR
      (repeat' (first | (refine iS ?_; refine iMu ?_; refine S.mapU ?_) | refine svz ⟨fun b hq => ?_⟩ | refine sv1 ?_ | refine svs ⟨?_⟩ | refine svu ⟨fun u => ?_⟩ | (refine svg (fun hg => ?_) (fun hg => ?_) <;> try (exfalso; first | omega | contradiction)) | (refine svc (fun hc => ?_) (fun hc => ?_) <;> try (exfalso; first | omega | contradiction)) | refine sv2 ?_ | refine svh (fun hb => ?_) (fun hb => ?_) | refine svb (fun b => ?_) | refine sva ?_ | refine sv3 ?_))
      exact ⟨(i + 1, hh), ⟨hlt, hR⟩, lee, by dsimp only; omega⟩
  · have e : i = s.size := by omega
    subst e
    (repeat' (first | (refine iS ?_; refine iMu ?_; refine S.mapU ?_) | refine svz ⟨fun b hq => ?_⟩ | refine sv1 ?_ | refine svs ⟨?_⟩ | refine svu ⟨fun u => ?_⟩ | (refine svg (fun hg => ?_) (fun hg => ?_) <;> try (exfalso; first | omega | contradiction)) | (refine svc (fun hc => ?_) (fun hc => ?_) <;> try (exfalso; first | omega | contradiction)) | refine sv2 ?_ | refine svh (fun hb => ?_) (fun hb => ?_) | refine svb (fun b => ?_) | refine sva ?_ | refine sv3 ?_))
    exact fin_n (h' := .box g1 [.val (.string s)] 9 :: .box g2 [.val (.int .i64 (st : Nat))] 3 :: hh) ⟨hh, rfl, .inl (by rw [List.length_map]; exact hR)⟩
end Go.Proofs.Ytdknjjgmmmmfjaa
/- shape.sided; shape.Of where the sizes are wrong. No condition. -/
namespace Go.Proofs.Ytdknjjgmmmmfjaa
open Go Go.VM
attribute [local irreducible] PurV Pur Step RL W D ACalls Then InBlock Fini
set_option linter.unusedVariables false
set_option linter.unusedSimpArgs false
set_option maxHeartbeats 20000000
set_option maxRecDepth 100000 in
theorem sided_t (n : Int) (h : Heap) (hn : 1 ≤ n ∧ n ≤ 128) : ACalls Try.prog 51 [.val (.int .i64 n)] h (fun r h' => r = .val (.bool true) ∧ h' = h) := by
  refine ACalls.intro Try.func51 rfl Try.ntmps51 Try.results51 (Nat.le_of_ble_eq_true rfl) ?_
  (repeat' (first | (refine iS ?_; refine iMu ?_; refine S.mapU ?_) | refine svz ⟨fun b hq => ?_⟩ | refine sv1 ?_ | refine svs ⟨?_⟩ | refine svu ⟨fun u => ?_⟩ | (refine svg (fun hg => ?_) (fun hg => ?_) <;> try (exfalso; first | omega | contradiction)) | (refine svc (fun hc => ?_) (fun hc => ?_) <;> try (exfalso; first | omega | contradiction)) | refine sv2 ?_ | refine svh (fun hb => ?_) (fun hb => ?_) | refine svb (fun b => ?_) | refine sva ?_ | refine sv3 ?_))
  refine fin_r (h' := h) ⟨?_, rfl⟩; rw [decide_eq_true hn.2]; rfl
set_option maxRecDepth 100000 in
theorem sided_f (n : Int) (h : Heap) (hn : n < 1 ∨ 128 < n) : ACalls Try.prog 51 [.val (.int .i64 n)] h (fun r h' => r = .val (.bool false) ∧ h' = h) := by
  have t : ¬ (1 ≤ n) ∨ 1 ≤ n := by omega
  rcases t with t | t
  · refine ACalls.intro Try.func51 rfl Try.ntmps51 Try.results51 (Nat.le_of_ble_eq_true rfl) ?_
    (repeat' (first | (refine iS ?_; refine iMu ?_; refine S.mapU ?_) | refine svz ⟨fun b hq => ?_⟩ | refine sv1 ?_ | refine svs ⟨?_⟩ | refine svu ⟨fun u => ?_⟩ | (refine svg (fun hg => ?_) (fun hg => ?_) <;> try (exfalso; first | omega | contradiction)) | (refine svc (fun hc => ?_) (fun hc => ?_) <;> try (exfalso; first | omega | contradiction)) | refine sv2 ?_ | refine svh (fun hb => ?_) (fun hb => ?_) | refine svb (fun b => ?_) | refine sva ?_ | refine sv3 ?_))
    exact fin_r (h' := h) ⟨rfl, rfl⟩
  · have t2 : ¬ n ≤ 128 := by omega
    refine ACalls.intro Try.func51 rfl Try.ntmps51 Try.results51 (Nat.le_of_ble_eq_true rfl) ?_
    (repeat' (first | (refine iS ?_; refine iMu ?_; refine S.mapU ?_) | refine svz ⟨fun b hq => ?_⟩ | refine sv1 ?_ | refine svs ⟨?_⟩ | refine svu ⟨fun u => ?_⟩ | (refine svg (fun hg => ?_) (fun hg => ?_) <;> try (exfalso; first | omega | contradiction)) | (refine svc (fun hc => ?_) (fun hc => ?_) <;> try (exfalso; first | omega | contradiction)) | refine sv2 ?_ | refine svh (fun hb => ?_) (fun hb => ?_) | refine svb (fun b => ?_) | refine sva ?_ | refine sv3 ?_))
    refine fin_r (h' := h) ⟨?_, rfl⟩; rw [decide_eq_false t2]; rfl
set_option maxRecDepth 100000 in
theorem sof_size (w g : Int) (s : ByteArray) (h : Heap) (hn : (w < 1 ∨ 128 < w) ∨ (g < 1 ∨ 128 < g)) : ACalls Try.prog 22 [.val (.int .i64 w), .val (.int .i64 g), .val (.string s)] h (fun r h' => r = .tup [regE [], .val (.int .i64 17)] ∧ h' = h) := by
  refine ACalls.wk (Q := fun v h' => v = .tup [.agg [.val (.slice none 0 0)], .val (.int .i64 17)] ∧ h' = h) ?_ ?_
  · have t : (w < 1 ∨ 128 < w) ∨ (1 ≤ w ∧ w ≤ 128) := by omega
    rcases t with t | t
    · have h1 := fun h => sided_f w h t
      refine ACalls.intro Try.func22 rfl Try.ntmps22 Try.results22 (Nat.le_of_ble_eq_true rfl) ?_
      (repeat' (first | (refine iS ?_; refine iMu ?_; refine S.mapU ?_) | refine svz ⟨fun b hq => ?_⟩ | refine sv1 ?_ | refine svs ⟨?_⟩ | refine svu ⟨fun u => ?_⟩ | (refine svg (fun hg => ?_) (fun hg => ?_) <;> try (exfalso; first | omega | contradiction)) | (refine svc (fun hc => ?_) (fun hc => ?_) <;> try (exfalso; first | omega | contradiction)) | refine sv2 ?_ | refine svh (fun hb => ?_) (fun hb => ?_) | refine svb (fun b => ?_) | refine sva ?_ | refine sv3 ?_))
      refine S.call ?_; refine (h1 _).mono ?_; rintro r h' ⟨rfl, hh⟩; subst hh
      (repeat' (first | (refine iS ?_; refine iMu ?_; refine S.mapU ?_) | refine svz ⟨fun b hq => ?_⟩ | refine sv1 ?_ | refine svs ⟨?_⟩ | refine svu ⟨fun u => ?_⟩ | (refine svg (fun hg => ?_) (fun hg => ?_) <;> try (exfalso; first | omega | contradiction)) | (refine svc (fun hc => ?_) (fun hc => ?_) <;> try (exfalso; first | omega | contradiction)) | refine sv2 ?_ | refine svh (fun hb => ?_) (fun hb => ?_) | refine svb (fun b => ?_) | refine sva ?_ | refine sv3 ?_))
      exact fin_r (h' := h) ⟨rfl, rfl⟩
    · have h1 := fun h => sided_t w h t
      have h2 := fun h => sided_f g h (by omega)
      refine ACalls.intro Try.func22 rfl Try.ntmps22 Try.results22 (Nat.le_of_ble_eq_true rfl) ?_
      (repeat' (first | (refine iS ?_; refine iMu ?_; refine S.mapU ?_) | refine svz ⟨fun b hq => ?_⟩ | refine sv1 ?_ | refine svs ⟨?_⟩ | refine svu ⟨fun u => ?_⟩ | (refine svg (fun hg => ?_) (fun hg => ?_) <;> try (exfalso; first | omega | contradiction)) | (refine svc (fun hc => ?_) (fun hc => ?_) <;> try (exfalso; first | omega | contradiction)) | refine sv2 ?_ | refine svh (fun hb => ?_) (fun hb => ?_) | refine svb (fun b => ?_) | refine sva ?_ | refine sv3 ?_))
      refine S.call ?_; refine (h1 _).mono ?_; rintro r h' ⟨rfl, hh⟩; subst hh
      (repeat' (first | (refine iS ?_; refine iMu ?_; refine S.mapU ?_) | refine svz ⟨fun b hq => ?_⟩ | refine sv1 ?_ | refine svs ⟨?_⟩ | refine svu ⟨fun u => ?_⟩ | (refine svg (fun hg => ?_) (fun hg => ?_) <;> try (exfalso; first | omega | contradiction)) | (refine svc (fun hc => ?_) (fun hc => ?_) <;> try (exfalso; first | omega | contradiction)) | refine sv2 ?_ | refine svh (fun hb => ?_) (fun hb => ?_) | refine svb (fun b => ?_) | refine sva ?_ | refine sv3 ?_))
      refine S.call ?_; refine (h2 _).mono ?_; rintro r h' ⟨rfl, hh⟩; subst hh
      (repeat' (first | (refine iS ?_; refine iMu ?_; refine S.mapU ?_) | refine svz ⟨fun b hq => ?_⟩ | refine sv1 ?_ | refine svs ⟨?_⟩ | refine svu ⟨fun u => ?_⟩ | (refine svg (fun hg => ?_) (fun hg => ?_) <;> try (exfalso; first | omega | contradiction)) | (refine svc (fun hc => ?_) (fun hc => ?_) <;> try (exfalso; first | omega | contradiction)) | refine sv2 ?_ | refine svh (fun hb => ?_) (fun hb => ?_) | refine svb (fun b => ?_) | refine sva ?_ | refine sv3 ?_))
      exact fin_r (h' := h) ⟨rfl, rfl⟩
  · rintro v h' ⟨rfl, rfl⟩
    unfold regE
    exact ⟨_, (by (repeat (first | exact Wk.refl _ | exact Wk.nilr _ | exact Wk.nilm | apply Wk.aggc | apply Wk.tupc | exact Wk.aggn | exact Wk.tupn)); first | done | fail), rfl, rfl⟩
set_option maxRecDepth 100000 in
theorem sof_short (w g : Int) (s : ByteArray) (h : Heap) (hw : 1 ≤ w ∧ w ≤ 128) (hg : 1 ≤ g ∧ g ≤ 128) (hb : 0 ≤ (w + 7) / 8 * g ∧ (w + 7) / 8 * g ≤ 100000) (hs : s.size ≤ 1000000000) (hl : (s.size : Int) < (w + 7) / 8 * g) : ACalls Try.prog 22 [.val (.int .i64 w), .val (.int .i64 g), .val (.string s)] h (fun r h' => r = .tup [regE [], .val (.int .i64 3)] ∧ h' = h) := by
  refine ACalls.wk (Q := fun v h' => v = .tup [.agg [.val (.slice none 0 0)], .val (.int .i64 3)] ∧ h' = h) ?_ ?_
  · have h1 := fun h => sided_t w h hw
    have h2 := fun h => sided_t g h hg
    refine ACalls.intro Try.func22 rfl Try.ntmps22 Try.results22 (Nat.le_of_ble_eq_true rfl) ?_
    (repeat' (first | (refine iS ?_; refine iMu ?_; refine S.mapU ?_) | refine svz ⟨fun b hq => ?_⟩ | refine sv1 ?_ | refine svs ⟨?_⟩ | refine svu ⟨fun u => ?_⟩ | (refine svg (fun hg => ?_) (fun hg => ?_) <;> try (exfalso; first | omega | contradiction)) | (refine svc (fun hc => ?_) (fun hc => ?_) <;> try (exfalso; first | omega | contradiction)) | refine sv2 ?_ | refine svh (fun hb => ?_) (fun hb => ?_) | refine svb (fun b => ?_) | refine sva ?_ | refine sv3 ?_))
    refine S.call ?_; refine (h1 _).mono ?_; rintro r h' ⟨rfl, hh⟩; subst hh
    (repeat' (first | (refine iS ?_; refine iMu ?_; refine S.mapU ?_) | refine svz ⟨fun b hq => ?_⟩ | refine sv1 ?_ | refine svs ⟨?_⟩ | refine svu ⟨fun u => ?_⟩ | (refine svg (fun hg => ?_) (fun hg => ?_) <;> try (exfalso; first | omega | contradiction)) | (refine svc (fun hc => ?_) (fun hc => ?_) <;> try (exfalso; first | omega | contradiction)) | refine sv2 ?_ | refine svh (fun hb => ?_) (fun hb => ?_) | refine svb (fun b => ?_) | refine sva ?_ | refine sv3 ?_))
    refine S.call ?_; refine (h2 _).mono ?_; rintro r h' ⟨rfl, hh⟩; subst hh
    (repeat' (first | (refine iS ?_; refine iMu ?_; refine S.mapU ?_) | refine svz ⟨fun b hq => ?_⟩ | refine sv1 ?_ | refine svs ⟨?_⟩ | refine svu ⟨fun u => ?_⟩ | (refine svg (fun hg => ?_) (fun hg => ?_) <;> try (exfalso; first | omega | contradiction)) | (refine svc (fun hc => ?_) (fun hc => ?_) <;> try (exfalso; first | omega | contradiction)) | refine sv2 ?_ | refine svh (fun hb => ?_) (fun hb => ?_) | refine svb (fun b => ?_) | refine sva ?_ | refine sv3 ?_))
    exact fin_r (h' := h) ⟨rfl, rfl⟩
  · rintro v h' ⟨rfl, rfl⟩
    unfold regE
    exact ⟨_, (by (repeat (first | exact Wk.refl _ | exact Wk.nilr _ | exact Wk.nilm | apply Wk.aggc | apply Wk.tupc | exact Wk.aggn | exact Wk.tupn)); first | done | fail), rfl, rfl⟩
set_option maxRecDepth 100000 in
theorem sof_long (w g : Int) (s : ByteArray) (h : Heap) (hw : 1 ≤ w ∧ w ≤ 128) (hg : 1 ≤ g ∧ g ≤ 128) (hb : 0 ≤ (w + 7) / 8 * g ∧ (w + 7) / 8 * g ≤ 100000) (hs : s.size ≤ 1000000000) (hl : (w + 7) / 8 * g < (s.size : Int)) : ACalls Try.prog 22 [.val (.int .i64 w), .val (.int .i64 g), .val (.string s)] h (fun r h' => r = .tup [regE [], .val (.int .i64 4)] ∧ h' = h) := by
  refine ACalls.wk (Q := fun v h' => v = .tup [.agg [.val (.slice none 0 0)], .val (.int .i64 4)] ∧ h' = h) ?_ ?_
  · have h1 := fun h => sided_t w h hw
    have h2 := fun h => sided_t g h hg
    refine ACalls.intro Try.func22 rfl Try.ntmps22 Try.results22 (Nat.le_of_ble_eq_true rfl) ?_
    (repeat' (first | (refine iS ?_; refine iMu ?_; refine S.mapU ?_) | refine svz ⟨fun b hq => ?_⟩ | refine sv1 ?_ | refine svs ⟨?_⟩ | refine svu ⟨fun u => ?_⟩ | (refine svg (fun hg => ?_) (fun hg => ?_) <;> try (exfalso; first | omega | contradiction)) | (refine svc (fun hc => ?_) (fun hc => ?_) <;> try (exfalso; first | omega | contradiction)) | refine sv2 ?_ | refine svh (fun hb => ?_) (fun hb => ?_) | refine svb (fun b => ?_) | refine sva ?_ | refine sv3 ?_))
    refine S.call ?_; refine (h1 _).mono ?_; rintro r h' ⟨rfl, hh⟩; subst hh
    (repeat' (first | (refine iS ?_; refine iMu ?_; refine S.mapU ?_) | refine svz ⟨fun b hq => ?_⟩ | refine sv1 ?_ | refine svs ⟨?_⟩ | refine svu ⟨fun u => ?_⟩ | (refine svg (fun hg => ?_) (fun hg => ?_) <;> try (exfalso; first | omega | contradiction)) | (refine svc (fun hc => ?_) (fun hc => ?_) <;> try (exfalso; first | omega | contradiction)) | refine sv2 ?_ | refine svh (fun hb => ?_) (fun hb => ?_) | refine svb (fun b => ?_) | refine sva ?_ | refine sv3 ?_))
    refine S.call ?_; refine (h2 _).mono ?_; rintro r h' ⟨rfl, hh⟩; subst hh
    (repeat' (first | (refine iS ?_; refine iMu ?_; refine S.mapU ?_) | refine svz ⟨fun b hq => ?_⟩ | refine sv1 ?_ | refine svs ⟨?_⟩ | refine svu ⟨fun u => ?_⟩ | (refine svg (fun hg => ?_) (fun hg => ?_) <;> try (exfalso; first | omega | contradiction)) | (refine svc (fun hc => ?_) (fun hc => ?_) <;> try (exfalso; first | omega | contradiction)) | refine sv2 ?_ | refine svh (fun hb => ?_) (fun hb => ?_) | refine svb (fun b => ?_) | refine sva ?_ | refine sv3 ?_))
    exact fin_r (h' := h) ⟨rfl, rfl⟩
  · rintro v h' ⟨rfl, rfl⟩
    unfold regE
    exact ⟨_, (by (repeat (first | exact Wk.refl _ | exact Wk.nilr _ | exact Wk.nilm | apply Wk.aggc | apply Wk.tupc | exact Wk.aggn | exact Wk.tupn)); first | done | fail), rfl, rfl⟩
end Go.Proofs.Ytdknjjgmmmmfjaa
/- shape.Of: the rectangles of a bitmap. No condition. -/
namespace Go.Proofs.Ytdknjjgmmmmfjaa
open Go Go.VM
attribute [local irreducible] PurV Pur Step RL W D ACalls Then InBlock Fini
set_option linter.unusedVariables false
set_option linter.unusedSimpArgs false
set_option maxHeartbeats 20000000
def stepL (l : List RC) (p : Nat × Nat) : List RC :=
  match l.getLast? with
  | some q => if q.y = p.2 ∧ q.x + q.w = p.1 then l.set (l.length - 1) ⟨q.x, q.y, q.w + 1, q.h⟩ else l ++ [⟨p.1, p.2, 1, 1⟩]
  | none => l ++ [⟨p.1, p.2, 1, 1⟩]
def listO (xs : List (Nat × Nat)) : List RC := xs.foldl stepL []
/-- What bounds the rectangles on the way. -/
structure SmO (N : Nat) (l : List RC) : Prop where
  sm : ∀ r ∈ l, (0 ≤ r.x ∧ r.x ≤ 100000) ∧ (0 ≤ r.y ∧ r.y ≤ 100000) ∧ (1 ≤ r.w ∧ r.w ≤ N) ∧ r.h = 1
  len : l.length ≤ N
theorem smO_step {N : Nat} {l : List RC} {p : Nat × Nat} (h : SmO N l) (hp : p.1 ≤ 100000 ∧ p.2 ≤ 100000) : SmO (N + 1) (stepL l p) := by
  have key : SmO (N + 1) (l ++ [⟨p.1, p.2, 1, 1⟩]) := ⟨fun r hr => by
    rcases List.mem_append.1 hr with q | q
    · have := h.sm r q; omega
    · have : r = ⟨p.1, p.2, 1, 1⟩ := by simpa using q
      subst this; dsimp only; omega, by rw [List.length_append]; have := h.len; simp; omega⟩
  unfold stepL
  split
  · rename_i q hq
    split
    · have hm := List.mem_of_getLast? hq
      refine ⟨fun r hr => ?_, by rw [List.length_set]; have := h.len; omega⟩
      rcases List.mem_or_eq_of_mem_set hr with g | g
      · have := h.sm r g; omega
      · subst g; have := h.sm q hm; dsimp only; omega
    · exact key
  · exact key
theorem listO_snoc (xs : List (Nat × Nat)) (p : Nat × Nat) : listO (xs ++ [p]) = stepL (listO xs) p := by unfold listO; rw [List.foldl_append]; rfl
theorem listO_sm : ∀ {n : Nat} {xs : List (Nat × Nat)}, xs.length = n → (∀ p ∈ xs, p.1 ≤ 100000 ∧ p.2 ≤ 100000) → SmO n (listO xs)
  | 0, xs, h, _ => by
    have : xs = [] := List.length_eq_zero_iff.1 h
    subst this
    exact ⟨fun r hr => (by cases hr), Nat.le_refl _⟩
  | n + 1, xs, h, hp => by
    have hne : xs ≠ [] := by rintro rfl; cases h
    obtain ⟨ys, p, rfl⟩ : ∃ ys p, xs = ys ++ [p] := ⟨xs.dropLast, xs.getLast hne, (List.dropLast_concat_getLast hne).symm⟩
    rw [List.length_append, List.length_singleton] at h
    rw [listO_snoc]
    exact smO_step (listO_sm (by omega) fun q hq => hp q (List.mem_append_left _ hq)) (hp p (by simp))
theorem onesP_mem {s : ByteArray} {st n : Nat} {p : Nat × Nat} (h : p ∈ onesP s st n) : ∃ q, q < n ∧ p = ptP st q ∧ bitP s q = 1 := by
  unfold onesP at h
  obtain ⟨q, hq, hp⟩ := List.mem_flatMap.1 h
  split at hp
  · exact ⟨q, List.mem_range.1 hq, by simpa using hp, by assumption⟩
  · cases hp
theorem onesP_bd {s : ByteArray} {st n : Nat} (hn : n ≤ 24000) (hst : 0 < st) : ∀ p ∈ onesP s st n, p.1 ≤ 100000 ∧ p.2 ≤ 100000 := fun p hp => by
  obtain ⟨q, hq, rfl, _⟩ := onesP_mem hp
  unfold ptP
  have h1 := Nat.mod_le (q / 8) st
  have h2 := Nat.div_le_self (q / 8) st
  dsimp only
  generalize q / 8 % st = a at *
  generalize q / 8 / st = b at *
  omega
theorem onesP_len (s : ByteArray) (st : Nat) : ∀ n, (onesP s st n).length ≤ n
  | 0 => by simp [onesP]
  | n + 1 => by
    rw [onesP_succ, List.length_append]
    have := onesP_len s st n
    split <;> simp <;> omega
theorem onesP_sm {s : ByteArray} {st : Nat} (hs : s.size ≤ 3000) (hst : 0 < st) : SmO 24000 (listO (onesP s st (8 * s.size))) := by
  have h1 := listO_sm (xs := onesP s st (8 * s.size)) rfl (onesP_bd (by omega) hst)
  have h2 := onesP_len s st (8 * s.size)
  exact ⟨fun r hr => by have := h1.sm r hr; omega, by have := h1.len; omega⟩
theorem SmO.ok {l : List RC} (h : SmO 24000 l) : ∀ r ∈ l, r.ok := fun r hr => by
  have := h.sm r hr
  constructor <;> (unfold I64; omega)
set_option maxRecDepth 100000 in
theorem sof_c (w g : Int) (st : Nat) (s : ByteArray) (h : Heap) (hw : 1 ≤ w ∧ w ≤ 128) (hg : 1 ≤ g ∧ g ≤ 128) (hst : (w + 7) / 8 = (st : Nat)) (hb : 0 ≤ (w + 7) / 8 * g ∧ (w + 7) / 8 * g ≤ 100000) (hl : (s.size : Int) = (w + 7) / 8 * g) (hs : s.size ≤ 3000)
    (hall : ∀ p ∈ onesP s st (8 * s.size), (p.1 : Int) < w) :
    ACalls Try.prog 22 [.val (.int .i64 w), .val (.int .i64 g), .val (.string s)] h (fun r h' => r = .tup [regE (ofF (listO (onesP s st (8 * s.size)))), .val (.int .i64 0)] ∧ h' = h) := by
  have h1 := fun h => sided_t w h hw
  have h2 := fun h => sided_t g h hg
  have on : ∀ h, ACalls Try.prog 52 [.val (.int .i64 ((w + 7) / 8)), .val (.string s)] h (fun r h' => ∃ g1 g2, r = .clo (.func 73) [.val (.pointer (some ⟨g1, 0, none⟩)), .val (.pointer (some ⟨g2, 0, none⟩))] ∧ h' = .box g1 [.val (.string s)] 9 :: .box g2 [.val (.int .i64 (st : Nat))] 3 :: h) := fun h => by rw [hst]; exact ones_c s st h
  have it := fun g1 g2 => ones_iter s st g1 g2 (by omega) (by omega)
  unfold regE
  refine ACalls.intro Try.func22 rfl Try.ntmps22 Try.results22 (Nat.le_of_ble_eq_true rfl) ?_
  (repeat' (first | (refine iS ?_; refine iMu ?_; refine S.mapU ?_) | refine svz ⟨fun b hq => ?_⟩ | refine sv1 ?_ | refine svs ⟨?_⟩ | refine svu ⟨fun u => ?_⟩ | (refine svg (fun hg => ?_) (fun hg => ?_) <;> try (exfalso; first | omega | contradiction)) | (refine svc (fun hc => ?_) (fun hc => ?_) <;> try (exfalso; first | omega | contradiction)) | refine sv2 ?_ | refine svh (fun hb => ?_) (fun hb => ?_) | refine svb (fun b => ?_) | refine sva ?_ | refine sv3 ?_))
  rename_i b3 b6
  revert b; intro b7
  refine S.call ?_; refine (h1 _).mono ?_; rintro r h' ⟨rfl, hh⟩; subst hh
  (repeat' (first | (refine iS ?_; refine iMu ?_; refine S.mapU ?_) | refine svz ⟨fun b hq => ?_⟩ | refine sv1 ?_ | refine svs ⟨?_⟩ | refine svu ⟨fun u => ?_⟩ | (refine svg (fun hg => ?_) (fun hg => ?_) <;> try (exfalso; first | omega | contradiction)) | (refine svc (fun hc => ?_) (fun hc => ?_) <;> try (exfalso; first | omega | contradiction)) | refine sv2 ?_ | refine svh (fun hb => ?_) (fun hb => ?_) | refine svb (fun b => ?_) | refine sva ?_ | refine sv3 ?_))
  refine S.call ?_; refine (h2 _).mono ?_; rintro r h' ⟨rfl, hh⟩; subst hh
  (repeat' (first | (refine iS ?_; refine iMu ?_; refine S.mapU ?_) | refine svz ⟨fun b hq => ?_⟩ | refine sv1 ?_ | refine svs ⟨?_⟩ | refine svu ⟨fun u => ?_⟩ | (refine svg (fun hg => ?_) (fun hg => ?_) <;> try (exfalso; first | omega | contradiction)) | (refine svc (fun hc => ?_) (fun hc => ?_) <;> try (exfalso; first | omega | contradiction)) | refine sv2 ?_ | refine svh (fun hb => ?_) (fun hb => ?_) | refine svb (fun b => ?_) | refine sva ?_ | refine sv3 ?_))
  revert b; intro b9
  refine S.call ?_
  refine (on _).mono ?_
  rintro r' h' ⟨g1, g2, rfl, hh⟩; subst hh
  (repeat' (first | (refine iS ?_; refine iMu ?_; refine S.mapU ?_) | refine svz ⟨fun b hq => ?_⟩ | refine sv1 ?_ | refine svs ⟨?_⟩ | refine svu ⟨fun u => ?_⟩ | (refine svg (fun hg => ?_) (fun hg => ?_) <;> try (exfalso; first | omega | contradiction)) | (refine svc (fun hc => ?_) (fun hc => ?_) <;> try (exfalso; first | omega | contradiction)) | refine sv2 ?_ | refine svh (fun hb => ?_) (fun hb => ?_) | refine svb (fun b => ?_) | refine sva ?_ | refine sv3 ?_))
  refine W.nil_ 4 43 ?_
  refine W.le (s' := ⟨96, [(41, .clo (.func 73) [.val (.pointer (some ⟨g1, 0, none⟩)), .val (.pointer (some ⟨g2, 0, none⟩))]), (9, .val (.pointer (some ⟨b9, 0, none⟩))), (7, .val (.pointer (some ⟨b7, 0, none⟩))), (6, .val (.pointer (some ⟨b6, 0, none⟩))), (3, .val (.pointer (some ⟨b3, 0, none⟩)))], .box g1 [.val (.string s)] 9 :: .box g2 [.val (.int .i64 (st : Nat))] 3 :: .box b9 [.val (.slice none 0 0)] 26 :: .own (.slice none 0 0) 4 ((([] : List RC)).map RC.enc) 43 :: .box b7 [.val (.int .i64 0)] 30 :: .box b6 [.val (.slice none 0 0)] 29 :: .box b3 [.val (.int .i64 w)] 3 :: h⟩) lee ?_
  refine W.range (fun k hh => ∃ vo, hh = .box b9 [.val vo] 26 :: .own vo 4 (((listO ((onesP s st (8 * s.size)).take k))).map RC.enc) 43 :: .box b7 [.val (.int .i64 0)] 30 :: .box b6 [.val (.slice none 0 0)] 29 :: .box b3 [.val (.int .i64 w)] 3 :: h)
      (fun _ _ => False) (it g1 g2) ⟨.slice none 0 0, rfl⟩ ?_ ?_ (fun c h hf => hf.elim) (fun x hx => by obtain ⟨s, _, rfl⟩ := List.mem_map.1 hx; rfl) (by repeat (first | exact LeH.refl _ | exact LeH.nil _ | refine LeH.cons (by (fail_if_success (apply tkG)); (repeat (first | exact Tk.here | apply Tk.there)); first | done | fail) ?_ | refine LeH.boxw (by (fail_if_success (apply tkG)); (repeat (first | exact Tk.here | apply Tk.there)); first | done | fail) (by (repeat (first | exact Wk.refl _ | exact Wk.nilr _ | exact Wk.nilm | apply Wk.aggc | apply Wk.tupc | exact Wk.aggn | exact Wk.tupn)); first | done | fail) ?_ | refine LeH.skip ?_))
  · rintro lp k x hh ⟨vo, rfl⟩ hx
    rw [List.getElem?_map] at hx
    obtain ⟨p, hp, rfl⟩ := Option.map_eq_some_iff.1 hx
    have hpw := hall p (List.mem_of_getElem? hp)
    have hbd := onesP_bd (s := s) (st := st) (n := 8 * s.size) (by omega) (by omega)
    have hpb := hbd p (List.mem_of_getElem? hp)
    have hO : SmO 24000 (listO ((onesP s st (8 * s.size)).take k)) := by
      have h1 := listO_sm (xs := (onesP s st (8 * s.size)).take k) rfl fun q hq => hbd q (List.mem_of_mem_take hq)
      have h2 : ((onesP s st (8 * s.size)).take k).length ≤ 24000 := by
        have := onesP_len s st (8 * s.size)
        rw [List.length_take]; omega
      exact ⟨fun r hr => by have := h1.sm r hr; omega, Nat.le_trans h1.len h2⟩
    have htk : listO ((onesP s st (8 * s.size)).take (k + 1)) = stepL (listO ((onesP s st (8 * s.size)).take k)) p := by
      rw [List.take_add_one, hp]; exact listO_snoc _ _
    rw [htk]
    clear htk hx hp hall hbd it on
    generalize listO ((onesP s st (8 * s.size)).take k) = O at *
    obtain ⟨p1, p2⟩ := p
    dsimp only at hpw hpb
    show W _ _ _ _ ⟨96, (43, .val (.int .i64 (p2 : Nat))) :: (42, .val (.int .i64 (p1 : Nat))) :: _, _⟩
    have hOl := hO.len
    rcases Nat.eq_zero_or_pos O.length with h0 | h0
    · have : O = [] := List.length_eq_zero_iff.1 h0
      subst this
      (repeat' (first | (refine iS ?_; refine iMu ?_; refine S.mapU ?_) | refine svz ⟨fun b hq => ?_⟩ | refine sv1 ?_ | refine svs ⟨?_⟩ | refine svu ⟨fun u => ?_⟩ | (refine svg (fun hg => ?_) (fun hg => ?_) <;> try (exfalso; first | omega | contradiction)) | (refine svc (fun hc => ?_) (fun hc => ?_) <;> try (exfalso; first | omega | contradiction)) | refine sv2 ?_ | refine svh (fun hb => ?_) (fun hb => ?_) | refine svb (fun b => ?_) | refine sva ?_ | refine sv3 ?_))
      rename_i u0
      rw [show stepL [] (p1, p2) = [] ++ [⟨p1, p2, 1, 1⟩] from rfl, List.map_append]
      exact ⟨.box b9 [.val u] 26 :: .own u 4 _ 43 :: .box b7 [.val (.int .i64 0)] 30 :: .box b6 [.val (.slice none 0 0)] 29 :: .box b3 [.val (.int .i64 w)] 3 :: h, (by repeat (first | exact LeH.refl _ | exact LeH.nil _ | refine LeH.cons (by (fail_if_success (apply tkG)); (repeat (first | exact Tk.here | apply Tk.there)); first | done | fail) ?_ | refine LeH.boxw (by (fail_if_success (apply tkG)); (repeat (first | exact Tk.here | apply Tk.there)); first | done | fail) (by (repeat (first | exact Wk.refl _ | exact Wk.nilr _ | exact Wk.nilm | apply Wk.aggc | apply Wk.tupc | exact Wk.aggn | exact Wk.tupn)); first | done | fail) ?_ | refine LeH.skip ?_)), _, rfl⟩
    · have hlt : ((O.length : Int) - 1).toNat < O.length := by omega
      have hrm := hO.sm (O[((O.length : Int) - 1).toNat]'hlt) (List.getElem_mem hlt)
      have hgl : O.getLast? = some (O[((O.length : Int) - 1).toNat]'hlt) := by
        rw [List.getLast?_eq_getElem?, ← List.getElem?_eq_getElem hlt]
        congr 1; omega
      have e1 : O.length - 1 = ((O.length : Int) - 1).toNat := by omega
      have hst2 : stepL O (p1, p2) = if (O[((O.length : Int) - 1).toNat]'hlt).y = p2 ∧ (O[((O.length : Int) - 1).toNat]'hlt).x + (O[((O.length : Int) - 1).toNat]'hlt).w = p1 then O.set ((O.length : Int) - 1).toNat ⟨(O[((O.length : Int) - 1).toNat]'hlt).x, (O[((O.length : Int) - 1).toNat]'hlt).y, (O[((O.length : Int) - 1).toNat]'hlt).w + 1, (O[((O.length : Int) - 1).toNat]'hlt).h⟩ else O ++ [⟨p1, p2, 1, 1⟩] := by
        unfold stepL; rw [hgl, e1]
      by_cases c1 : (O[((O.length : Int) - 1).toNat]'hlt).y = p2
      · by_cases c2 : (O[((O.length : Int) - 1).toNat]'hlt).x + (O[((O.length : Int) - 1).toNat]'hlt).w = p1
        · rw [if_pos ⟨c1, c2⟩] at hst2
          (repeat' (first | (refine iS ?_; refine iMu ?_; refine S.mapU ?_) | refine svz ⟨fun b hq => ?_⟩ | refine sv1 ?_ | refine svs ⟨?_⟩ | refine svu ⟨fun u => ?_⟩ | (refine svg (fun hg => ?_) (fun hg => ?_) <;> try (exfalso; first | omega | contradiction)) | (refine svc (fun hc => ?_) (fun hc => ?_) <;> try (exfalso; first | omega | contradiction)) | refine sv2 ?_ | refine svh (fun hb => ?_) (fun hb => ?_) | refine svb (fun b => ?_) | refine sva ?_ | refine sv3 ?_))
          rw [hst2, List.map_set]
          exact ⟨.box b9 [.val vo] 26 :: .own vo 4 _ 43 :: .box b7 [.val (.int .i64 0)] 30 :: .box b6 [.val (.slice none 0 0)] 29 :: .box b3 [.val (.int .i64 w)] 3 :: h, (by repeat (first | exact LeH.refl _ | exact LeH.nil _ | refine LeH.cons (by (fail_if_success (apply tkG)); (repeat (first | exact Tk.here | apply Tk.there)); first | done | fail) ?_ | refine LeH.boxw (by (fail_if_success (apply tkG)); (repeat (first | exact Tk.here | apply Tk.there)); first | done | fail) (by (repeat (first | exact Wk.refl _ | exact Wk.nilr _ | exact Wk.nilm | apply Wk.aggc | apply Wk.tupc | exact Wk.aggn | exact Wk.tupn)); first | done | fail) ?_ | refine LeH.skip ?_)), _, rfl⟩
        · rw [if_neg fun q => c2 q.2] at hst2
          (repeat' (first | (refine iS ?_; refine iMu ?_; refine S.mapU ?_) | refine svz ⟨fun b hq => ?_⟩ | refine sv1 ?_ | refine svs ⟨?_⟩ | refine svu ⟨fun u => ?_⟩ | (refine svg (fun hg => ?_) (fun hg => ?_) <;> try (exfalso; first | omega | contradiction)) | (refine svc (fun hc => ?_) (fun hc => ?_) <;> try (exfalso; first | omega | contradiction)) | refine sv2 ?_ | refine svh (fun hb => ?_) (fun hb => ?_) | refine svb (fun b => ?_) | refine sva ?_ | refine sv3 ?_))
          rw [hst2, List.map_append]
          exact ⟨.box b9 [.val u] 26 :: .own u 4 _ 43 :: .box b7 [.val (.int .i64 0)] 30 :: .box b6 [.val (.slice none 0 0)] 29 :: .box b3 [.val (.int .i64 w)] 3 :: h, (by repeat (first | exact LeH.refl _ | exact LeH.nil _ | refine LeH.cons (by (fail_if_success (apply tkG)); (repeat (first | exact Tk.here | apply Tk.there)); first | done | fail) ?_ | refine LeH.boxw (by (fail_if_success (apply tkG)); (repeat (first | exact Tk.here | apply Tk.there)); first | done | fail) (by (repeat (first | exact Wk.refl _ | exact Wk.nilr _ | exact Wk.nilm | apply Wk.aggc | apply Wk.tupc | exact Wk.aggn | exact Wk.tupn)); first | done | fail) ?_ | refine LeH.skip ?_)), _, rfl⟩
      · rw [if_neg fun q => c1 q.1] at hst2
        (repeat' (first | (refine iS ?_; refine iMu ?_; refine S.mapU ?_) | refine svz ⟨fun b hq => ?_⟩ | refine sv1 ?_ | refine svs ⟨?_⟩ | refine svu ⟨fun u => ?_⟩ | (refine svg (fun hg => ?_) (fun hg => ?_) <;> try (exfalso; first | omega | contradiction)) | (refine svc (fun hc => ?_) (fun hc => ?_) <;> try (exfalso; first | omega | contradiction)) | refine sv2 ?_ | refine svh (fun hb => ?_) (fun hb => ?_) | refine svb (fun b => ?_) | refine sva ?_ | refine sv3 ?_))
        rw [hst2, List.map_append]
        exact ⟨.box b9 [.val u] 26 :: .own u 4 _ 43 :: .box b7 [.val (.int .i64 0)] 30 :: .box b6 [.val (.slice none 0 0)] 29 :: .box b3 [.val (.int .i64 w)] 3 :: h, (by repeat (first | exact LeH.refl _ | exact LeH.nil _ | refine LeH.cons (by (fail_if_success (apply tkG)); (repeat (first | exact Tk.here | apply Tk.there)); first | done | fail) ?_ | refine LeH.boxw (by (fail_if_success (apply tkG)); (repeat (first | exact Tk.here | apply Tk.there)); first | done | fail) (by (repeat (first | exact Wk.refl _ | exact Wk.nilr _ | exact Wk.nilm | apply Wk.aggc | apply Wk.tupc | exact Wk.aggn | exact Wk.tupn)); first | done | fail) ?_ | refine LeH.skip ?_)), _, rfl⟩
  · rintro hh ⟨vo, rfl⟩
    rw [List.length_map, List.take_length]
    have hO := onesP_sm (s := s) (st := st) hs (by omega)
    have hof := fun h => of_c (listO (onesP s st (8 * s.size))) h (by have := hO.len; omega) hO.ok
    clear hall it on hO
    generalize ofF (listO (onesP s st (8 * s.size))) = G at *
    generalize listO (onesP s st (8 * s.size)) = O at *
    show InBlock _ _ _ ⟨_, _, .box g1 [.val (.string s)] 9 :: .box g2 [.val (.int .i64 (st : Nat))] 3 :: .box b9 [.val vo] 26 :: .own vo 4 ((O).map RC.enc) 43 :: .box b7 [.val (.int .i64 0)] 30 :: .box b6 [.val (.slice none 0 0)] 29 :: .box b3 [.val (.int .i64 w)] 3 :: h⟩
    (repeat' (first | (refine iS ?_; refine iMu ?_; refine S.mapU ?_) | refine svz ⟨fun b hq => ?_⟩ | refine sv1 ?_ | refine svs ⟨?_⟩ | refine svu ⟨fun u => ?_⟩ | (refine svg (fun hg => ?_) (fun hg => ?_) <;> try (exfalso; first | omega | contradiction)) | (refine svc (fun hc => ?_) (fun hc => ?_) <;> try (exfalso; first | omega | contradiction)) | refine sv2 ?_ | refine svh (fun hb => ?_) (fun hb => ?_) | refine svb (fun b => ?_) | refine sva ?_ | refine sv3 ?_))
    refine Step.frz (v := vo) (by (fail_if_success (apply tkG)); (repeat (first | exact Tk.here | apply Tk.there)); first | done | fail) (by repeat' (first | apply FrzT.cons | exact FrzT.rest _ | exact Frz.hit | apply Frz.aggc | apply Frz.tupc | exact Frz.aggn | exact Frz.tupn | exact Frz.keep _)) (by repeat' (first | apply FrzH.box | apply FrzH.keep | exact FrzH.rest _ | exact Frz.hit | apply Frz.aggc | apply Frz.tupc | exact Frz.aggn | exact Frz.tupn | exact Frz.keep _)) ?_
    refine S.call ?_; refine (hof _).mono ?_; rintro r h' ⟨rfl, hh⟩; subst hh
    (repeat' (first | (refine iS ?_; refine iMu ?_; refine S.mapU ?_) | refine svz ⟨fun b hq => ?_⟩ | refine sv1 ?_ | refine svs ⟨?_⟩ | refine svu ⟨fun u => ?_⟩ | (refine svg (fun hg => ?_) (fun hg => ?_) <;> try (exfalso; first | omega | contradiction)) | (refine svc (fun hc => ?_) (fun hc => ?_) <;> try (exfalso; first | omega | contradiction)) | refine sv2 ?_ | refine svh (fun hb => ?_) (fun hb => ?_) | refine svb (fun b => ?_) | refine sva ?_ | refine sv3 ?_))
    exact fin_r (h' := h) ⟨rfl, rfl⟩
end Go.Proofs.Ytdknjjgmmmmfjaa
/- shape.Of: a bit behind a row's end. No condition. -/
namespace Go.Proofs.Ytdknjjgmmmmfjaa
open Go Go.VM
attribute [local irreducible] PurV Pur Step RL W D ACalls Then InBlock Fini
set_option linter.unusedVariables false
set_option linter.unusedSimpArgs false
set_option maxHeartbeats 20000000
set_option maxRecDepth 100000 in
theorem sof_form (w g : Int) (st : Nat) (s : ByteArray) (h : Heap) (hw : 1 ≤ w ∧ w ≤ 128) (hg : 1 ≤ g ∧ g ≤ 128) (hst : (w + 7) / 8 = (st : Nat)) (hb : 0 ≤ (w + 7) / 8 * g ∧ (w + 7) / 8 * g ≤ 100000) (hl : (s.size : Int) = (w + 7) / 8 * g) (hs : s.size ≤ 3000)
    (hbad : ∃ p ∈ onesP s st (8 * s.size), w ≤ (p.1 : Int)) :
    ACalls Try.prog 22 [.val (.int .i64 w), .val (.int .i64 g), .val (.string s)] h (fun r h' => r = .tup [regE [], .val (.int .i64 2)] ∧ h' = h) := by
  refine ACalls.wk (Q := fun v h' => v = .tup [.agg [.val (.slice none 0 0)], .val (.int .i64 2)] ∧ h' = h) ?_ (by rintro v h' ⟨rfl, rfl⟩; unfold regE; exact ⟨_, (by (repeat (first | exact Wk.refl _ | exact Wk.nilr _ | exact Wk.nilm | apply Wk.aggc | apply Wk.tupc | exact Wk.aggn | exact Wk.tupn)); first | done | fail), rfl, rfl⟩)
  have h1 := fun h => sided_t w h hw
  have h2 := fun h => sided_t g h hg
  have on : ∀ h, ACalls Try.prog 52 [.val (.int .i64 ((w + 7) / 8)), .val (.string s)] h (fun r h' => ∃ g1 g2, r = .clo (.func 73) [.val (.pointer (some ⟨g1, 0, none⟩)), .val (.pointer (some ⟨g2, 0, none⟩))] ∧ h' = .box g1 [.val (.string s)] 9 :: .box g2 [.val (.int .i64 (st : Nat))] 3 :: h) := fun h => by rw [hst]; exact ones_c s st h
  have it := fun g1 g2 => ones_iter s st g1 g2 (by omega) (by omega)
  refine ACalls.intro Try.func22 rfl Try.ntmps22 Try.results22 (Nat.le_of_ble_eq_true rfl) ?_
  (repeat' (first | (refine iS ?_; refine iMu ?_; refine S.mapU ?_) | refine svz ⟨fun b hq => ?_⟩ | refine sv1 ?_ | refine svs ⟨?_⟩ | refine svu ⟨fun u => ?_⟩ | (refine svg (fun hg => ?_) (fun hg => ?_) <;> try (exfalso; first | omega | contradiction)) | (refine svc (fun hc => ?_) (fun hc => ?_) <;> try (exfalso; first | omega | contradiction)) | refine sv2 ?_ | refine svh (fun hb => ?_) (fun hb => ?_) | refine svb (fun b => ?_) | refine sva ?_ | refine sv3 ?_))
  rename_i b3 b6
  revert b; intro b7
  refine S.call ?_; refine (h1 _).mono ?_; rintro r h' ⟨rfl, hh⟩; subst hh
  (repeat' (first | (refine iS ?_; refine iMu ?_; refine S.mapU ?_) | refine svz ⟨fun b hq => ?_⟩ | refine sv1 ?_ | refine svs ⟨?_⟩ | refine svu ⟨fun u => ?_⟩ | (refine svg (fun hg => ?_) (fun hg => ?_) <;> try (exfalso; first | omega | contradiction)) | (refine svc (fun hc => ?_) (fun hc => ?_) <;> try (exfalso; first | omega | contradiction)) | refine sv2 ?_ | refine svh (fun hb => ?_) (fun hb => ?_) | refine svb (fun b => ?_) | refine sva ?_ | refine sv3 ?_))
  refine S.call ?_; refine (h2 _).mono ?_; rintro r h' ⟨rfl, hh⟩; subst hh
  (repeat' (first | (refine iS ?_; refine iMu ?_; refine S.mapU ?_) | refine svz ⟨fun b hq => ?_⟩ | refine sv1 ?_ | refine svs ⟨?_⟩ | refine svu ⟨fun u => ?_⟩ | (refine svg (fun hg => ?_) (fun hg => ?_) <;> try (exfalso; first | omega | contradiction)) | (refine svc (fun hc => ?_) (fun hc => ?_) <;> try (exfalso; first | omega | contradiction)) | refine sv2 ?_ | refine svh (fun hb => ?_) (fun hb => ?_) | refine svb (fun b => ?_) | refine sva ?_ | refine sv3 ?_))
  revert b; intro b9
  refine S.call ?_
  refine (on _).mono ?_
  rintro r' h' ⟨g1, g2, rfl, hh⟩; subst hh
  (repeat' (first | (refine iS ?_; refine iMu ?_; refine S.mapU ?_) | refine svz ⟨fun b hq => ?_⟩ | refine sv1 ?_ | refine svs ⟨?_⟩ | refine svu ⟨fun u => ?_⟩ | (refine svg (fun hg => ?_) (fun hg => ?_) <;> try (exfalso; first | omega | contradiction)) | (refine svc (fun hc => ?_) (fun hc => ?_) <;> try (exfalso; first | omega | contradiction)) | refine sv2 ?_ | refine svh (fun hb => ?_) (fun hb => ?_) | refine svb (fun b => ?_) | refine sva ?_ | refine sv3 ?_))
  refine W.nil_ 4 43 ?_
  refine W.le (s' := ⟨96, [(41, .clo (.func 73) [.val (.pointer (some ⟨g1, 0, none⟩)), .val (.pointer (some ⟨g2, 0, none⟩))]), (9, .val (.pointer (some ⟨b9, 0, none⟩))), (7, .val (.pointer (some ⟨b7, 0, none⟩))), (6, .val (.pointer (some ⟨b6, 0, none⟩))), (3, .val (.pointer (some ⟨b3, 0, none⟩)))], .box g1 [.val (.string s)] 9 :: .box g2 [.val (.int .i64 (st : Nat))] 3 :: .box b9 [.val (.slice none 0 0)] 26 :: .own (.slice none 0 0) 4 ((([] : List RC)).map RC.enc) 43 :: .box b7 [.val (.int .i64 0)] 30 :: .box b6 [.val (.slice none 0 0)] 29 :: .box b3 [.val (.int .i64 w)] 3 :: h⟩) lee ?_
  refine W.range (fun k hh => (∃ vo, hh = .box b9 [.val vo] 26 :: .own vo 4 (((listO ((onesP s st (8 * s.size)).take k))).map RC.enc) 43 :: .box b7 [.val (.int .i64 0)] 30 :: .box b6 [.val (.slice none 0 0)] 29 :: .box b3 [.val (.int .i64 w)] 3 :: h) ∧ ∀ q ∈ (onesP s st (8 * s.size)).take k, (q.1 : Int) < w)
      (fun c hh => c = .ret ∧ ∃ (vo : Value) (O : List RC), hh = .box b9 [.val vo] 26 :: .own vo 4 (O.map RC.enc) 43 :: .box b7 [.val (.int .i64 2)] 30 :: .box b6 [.val (.slice none 0 0)] 29 :: .box b3 [.val (.int .i64 w)] 3 :: h) (it g1 g2) ⟨⟨.slice none 0 0, rfl⟩, fun q hq => (by rw [List.take_zero] at hq; cases hq)⟩ ?_ ?_ ?_ (fun x hx => by obtain ⟨s, _, rfl⟩ := List.mem_map.1 hx; rfl) (by repeat (first | exact LeH.refl _ | exact LeH.nil _ | refine LeH.cons (by (fail_if_success (apply tkG)); (repeat (first | exact Tk.here | apply Tk.there)); first | done | fail) ?_ | refine LeH.boxw (by (fail_if_success (apply tkG)); (repeat (first | exact Tk.here | apply Tk.there)); first | done | fail) (by (repeat (first | exact Wk.refl _ | exact Wk.nilr _ | exact Wk.nilm | apply Wk.aggc | apply Wk.tupc | exact Wk.aggn | exact Wk.tupn)); first | done | fail) ?_ | refine LeH.skip ?_))
  · rintro lp k x hh ⟨⟨vo, rfl⟩, hal⟩ hx
    rw [List.getElem?_map] at hx
    obtain ⟨p, hp, rfl⟩ := Option.map_eq_some_iff.1 hx
    have hbd := onesP_bd (s := s) (st := st) (n := 8 * s.size) (by omega) (by omega)
    have hpb := hbd p (List.mem_of_getElem? hp)
    have hO : SmO 24000 (listO ((onesP s st (8 * s.size)).take k)) := by
      have h1 := listO_sm (xs := (onesP s st (8 * s.size)).take k) rfl fun q hq => hbd q (List.mem_of_mem_take hq)
      have h2 : ((onesP s st (8 * s.size)).take k).length ≤ 24000 := by
        have := onesP_len s st (8 * s.size)
        rw [List.length_take]; omega
      exact ⟨fun r hr => by have := h1.sm r hr; omega, Nat.le_trans h1.len h2⟩
    have htk : listO ((onesP s st (8 * s.size)).take (k + 1)) = stepL (listO ((onesP s st (8 * s.size)).take k)) p := by
      rw [List.take_add_one, hp]; exact listO_snoc _ _
    have hal2 : (p.1 : Int) < w → ∀ q ∈ (onesP s st (8 * s.size)).take (k + 1), (q.1 : Int) < w := fun hlt q hq => by
      rw [List.take_add_one, hp] at hq
      rcases List.mem_append.1 hq with g | g
      · exact hal q g
      · have : q = p := by simpa using g
        subst this; exact hlt
    rw [htk]
    clear hal
    generalize hAl : (∀ q ∈ (onesP s st (8 * s.size)).take (k + 1), (q.1 : Int) < w) = Al at *
    clear htk hx hp hbad hbd it on hAl
    generalize listO ((onesP s st (8 * s.size)).take k) = O at *
    obtain ⟨p1, p2⟩ := p
    dsimp only at hal2 hpb
    show W _ _ _ _ ⟨96, (43, .val (.int .i64 (p2 : Nat))) :: (42, .val (.int .i64 (p1 : Nat))) :: _, _⟩
    have hOl := hO.len
    rcases (by omega : w ≤ (p1 : Int) ∨ (p1 : Int) < w) with hpw | hpw
    · clear hal2
      (repeat' (first | (refine iS ?_; refine iMu ?_; refine S.mapU ?_) | refine svz ⟨fun b hq => ?_⟩ | refine sv1 ?_ | refine svs ⟨?_⟩ | refine svu ⟨fun u => ?_⟩ | (refine svg (fun hg => ?_) (fun hg => ?_) <;> try (exfalso; first | omega | contradiction)) | (refine svc (fun hc => ?_) (fun hc => ?_) <;> try (exfalso; first | omega | contradiction)) | refine sv2 ?_ | refine svh (fun hb => ?_) (fun hb => ?_) | refine svb (fun b => ?_) | refine sva ?_ | refine sv3 ?_))
      exact ⟨.box b9 [.val vo] 26 :: .own vo 4 (O.map RC.enc) 43 :: .box b7 [.val (.int .i64 2)] 30 :: .box b6 [.val (.slice none 0 0)] 29 :: .box b3 [.val (.int .i64 w)] 3 :: h, (by repeat (first | exact LeH.refl _ | exact LeH.nil _ | refine LeH.cons (by (fail_if_success (apply tkG)); (repeat (first | exact Tk.here | apply Tk.there)); first | done | fail) ?_ | refine LeH.boxw (by (fail_if_success (apply tkG)); (repeat (first | exact Tk.here | apply Tk.there)); first | done | fail) (by (repeat (first | exact Wk.refl _ | exact Wk.nilr _ | exact Wk.nilm | apply Wk.aggc | apply Wk.tupc | exact Wk.aggn | exact Wk.tupn)); first | done | fail) ?_ | refine LeH.skip ?_)), rfl, vo, O, rfl⟩
    have hal2 := hal2 hpw
    rcases Nat.eq_zero_or_pos O.length with h0 | h0
    · have : O = [] := List.length_eq_zero_iff.1 h0
      subst this
      (repeat' (first | (refine iS ?_; refine iMu ?_; refine S.mapU ?_) | refine svz ⟨fun b hq => ?_⟩ | refine sv1 ?_ | refine svs ⟨?_⟩ | refine svu ⟨fun u => ?_⟩ | (refine svg (fun hg => ?_) (fun hg => ?_) <;> try (exfalso; first | omega | contradiction)) | (refine svc (fun hc => ?_) (fun hc => ?_) <;> try (exfalso; first | omega | contradiction)) | refine sv2 ?_ | refine svh (fun hb => ?_) (fun hb => ?_) | refine svb (fun b => ?_) | refine sva ?_ | refine sv3 ?_))
      rename_i u0
      rw [show stepL [] (p1, p2) = [] ++ [⟨p1, p2, 1, 1⟩] from rfl, List.map_append]
      exact ⟨.box b9 [.val u] 26 :: .own u 4 _ 43 :: .box b7 [.val (.int .i64 0)] 30 :: .box b6 [.val (.slice none 0 0)] 29 :: .box b3 [.val (.int .i64 w)] 3 :: h, (by repeat (first | exact LeH.refl _ | exact LeH.nil _ | refine LeH.cons (by (fail_if_success (apply tkG)); (repeat (first | exact Tk.here | apply Tk.there)); first | done | fail) ?_ | refine LeH.boxw (by (fail_if_success (apply tkG)); (repeat (first | exact Tk.here | apply Tk.there)); first | done | fail) (by (repeat (first | exact Wk.refl _ | exact Wk.nilr _ | exact Wk.nilm | apply Wk.aggc | apply Wk.tupc | exact Wk.aggn | exact Wk.tupn)); first | done | fail) ?_ | refine LeH.skip ?_)), ⟨_, rfl⟩, hal2⟩
    · have hlt : ((O.length : Int) - 1).toNat < O.length := by omega
      have hrm := hO.sm (O[((O.length : Int) - 1).toNat]'hlt) (List.getElem_mem hlt)
      have hgl : O.getLast? = some (O[((O.length : Int) - 1).toNat]'hlt) := by
        rw [List.getLast?_eq_getElem?, ← List.getElem?_eq_getElem hlt]
        congr 1; omega
      have e1 : O.length - 1 = ((O.length : Int) - 1).toNat := by omega
      have hst2 : stepL O (p1, p2) = if (O[((O.length : Int) - 1).toNat]'hlt).y = p2 ∧ (O[((O.length : Int) - 1).toNat]'hlt).x + (O[((O.length : Int) - 1).toNat]'hlt).w = p1 then O.set ((O.length : Int) - 1).toNat ⟨(O[((O.length : Int) - 1).toNat]'hlt).x, (O[((O.length : Int) - 1).toNat]'hlt).y, (O[((O.length : Int) - 1).toNat]'hlt).w + 1, (O[((O.length : Int) - 1).toNat]'hlt).h⟩ else O ++ [⟨p1, p2, 1, 1⟩] := by
        unfold stepL; rw [hgl, e1]
      by_cases c1 : (O[((O.length : Int) - 1).toNat]'hlt).y = p2
      · by_cases c2 : (O[((O.length : Int) - 1).toNat]'hlt).x + (O[((O.length : Int) - 1).toNat]'hlt).w = p1
        · rw [if_pos ⟨c1, c2⟩] at hst2
          (repeat' (first | (refine iS ?_; refine iMu ?_; refine S.mapU ?_) | refine svz ⟨fun b hq => ?_⟩ | refine sv1 ?_ | refine svs ⟨?_⟩ | refine svu ⟨fun u => ?_⟩ | (refine svg (fun hg => ?_) (fun hg => ?_) <;> try (exfalso; first | omega | contradiction)) | (refine svc (fun hc => ?_) (fun hc => ?_) <;> try (exfalso; first | omega | contradiction)) | refine sv2 ?_ | refine svh (fun hb => ?_) (fun hb => ?_) | refine svb (fun b => ?_) | refine sva ?_ | refine sv3 ?_))
          rw [hst2, List.map_set]
          exact ⟨.box b9 [.val vo] 26 :: .own vo 4 _ 43 :: .box b7 [.val (.int .i64 0)] 30 :: .box b6 [.val (.slice none 0 0)] 29 :: .box b3 [.val (.int .i64 w)] 3 :: h, (by repeat (first | exact LeH.refl _ | exact LeH.nil _ | refine LeH.cons (by (fail_if_success (apply tkG)); (repeat (first | exact Tk.here | apply Tk.there)); first | done | fail) ?_ | refine LeH.boxw (by (fail_if_success (apply tkG)); (repeat (first | exact Tk.here | apply Tk.there)); first | done | fail) (by (repeat (first | exact Wk.refl _ | exact Wk.nilr _ | exact Wk.nilm | apply Wk.aggc | apply Wk.tupc | exact Wk.aggn | exact Wk.tupn)); first | done | fail) ?_ | refine LeH.skip ?_)), ⟨_, rfl⟩, hal2⟩
        · rw [if_neg fun q => c2 q.2] at hst2
          (repeat' (first | (refine iS ?_; refine iMu ?_; refine S.mapU ?_) | refine svz ⟨fun b hq => ?_⟩ | refine sv1 ?_ | refine svs ⟨?_⟩ | refine svu ⟨fun u => ?_⟩ | (refine svg (fun hg => ?_) (fun hg => ?_) <;> try (exfalso; first | omega | contradiction)) | (refine svc (fun hc => ?_) (fun hc => ?_) <;> try (exfalso; first | omega | contradiction)) | refine sv2 ?_ | refine svh (fun hb => ?_) (fun hb => ?_) | refine svb (fun b => ?_) | refine sva ?_ | refine sv3 ?_))
          rw [hst2, List.map_append]
          exact ⟨.box b9 [.val u] 26 :: .own u 4 _ 43 :: .box b7 [.val (.int .i64 0)] 30 :: .box b6 [.val (.slice none 0 0)] 29 :: .box b3 [.val (.int .i64 w)] 3 :: h, (by repeat (first | exact LeH.refl _ | exact LeH.nil _ | refine LeH.cons (by (fail_if_success (apply tkG)); (repeat (first | exact Tk.here | apply Tk.there)); first | done | fail) ?_ | refine LeH.boxw (by (fail_if_success (apply tkG)); (repeat (first | exact Tk.here | apply Tk.there)); first | done | fail) (by (repeat (first | exact Wk.refl _ | exact Wk.nilr _ | exact Wk.nilm | apply Wk.aggc | apply Wk.tupc | exact Wk.aggn | exact Wk.tupn)); first | done | fail) ?_ | refine LeH.skip ?_)), ⟨_, rfl⟩, hal2⟩
      · rw [if_neg fun q => c1 q.1] at hst2
        (repeat' (first | (refine iS ?_; refine iMu ?_; refine S.mapU ?_) | refine svz ⟨fun b hq => ?_⟩ | refine sv1 ?_ | refine svs ⟨?_⟩ | refine svu ⟨fun u => ?_⟩ | (refine svg (fun hg => ?_) (fun hg => ?_) <;> try (exfalso; first | omega | contradiction)) | (refine svc (fun hc => ?_) (fun hc => ?_) <;> try (exfalso; first | omega | contradiction)) | refine sv2 ?_ | refine svh (fun hb => ?_) (fun hb => ?_) | refine svb (fun b => ?_) | refine sva ?_ | refine sv3 ?_))
        rw [hst2, List.map_append]
        exact ⟨.box b9 [.val u] 26 :: .own u 4 _ 43 :: .box b7 [.val (.int .i64 0)] 30 :: .box b6 [.val (.slice none 0 0)] 29 :: .box b3 [.val (.int .i64 w)] 3 :: h, (by repeat (first | exact LeH.refl _ | exact LeH.nil _ | refine LeH.cons (by (fail_if_success (apply tkG)); (repeat (first | exact Tk.here | apply Tk.there)); first | done | fail) ?_ | refine LeH.boxw (by (fail_if_success (apply tkG)); (repeat (first | exact Tk.here | apply Tk.there)); first | done | fail) (by (repeat (first | exact Wk.refl _ | exact Wk.nilr _ | exact Wk.nilm | apply Wk.aggc | apply Wk.tupc | exact Wk.aggn | exact Wk.tupn)); first | done | fail) ?_ | refine LeH.skip ?_)), ⟨_, rfl⟩, hal2⟩
  · rintro hh ⟨_, hal⟩
    rw [List.length_map, List.take_length] at hal
    obtain ⟨p, hp, hpw⟩ := hbad
    have := hal p hp
    omega
  · rintro c hh ⟨rfl, vo, O, rfl⟩
    show W none _ _ _ ⟨_, _, .box g1 [.val (.string s)] 9 :: .box g2 [.val (.int .i64 (st : Nat))] 3 :: .box b9 [.val vo] 26 :: .own vo 4 (O.map RC.enc) 43 :: .box b7 [.val (.int .i64 2)] 30 :: .box b6 [.val (.slice none 0 0)] 29 :: .box b3 [.val (.int .i64 w)] 3 :: h⟩
    (repeat' (first | (refine iS ?_; refine iMu ?_; refine S.mapU ?_) | refine svz ⟨fun b hq => ?_⟩ | refine sv1 ?_ | refine svs ⟨?_⟩ | refine svu ⟨fun u => ?_⟩ | (refine svg (fun hg => ?_) (fun hg => ?_) <;> try (exfalso; first | omega | contradiction)) | (refine svc (fun hc => ?_) (fun hc => ?_) <;> try (exfalso; first | omega | contradiction)) | refine sv2 ?_ | refine svh (fun hb => ?_) (fun hb => ?_) | refine svb (fun b => ?_) | refine sva ?_ | refine sv3 ?_))
    exact fin_r (h' := h) ⟨rfl, rfl⟩
end Go.Proofs.Ytdknjjgmmmmfjaa
