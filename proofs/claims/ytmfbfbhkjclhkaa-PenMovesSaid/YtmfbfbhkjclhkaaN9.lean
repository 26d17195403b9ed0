/- Pens: Change, the program's and the reference's. No condition. -/
import Derived.Test.YtmfbfbhkjclhkaaN8
import Derived.Test.YtmfbfbhkjclhkaaN5
namespace Go.Proofs.Ytmfbfbhkjclhkaa
open Go Go.VM
attribute [local irreducible] PurV Pur Step RL W D ACalls Then InBlock Fini
set_option linter.unusedVariables false
set_option linter.unusedSimpArgs false
set_option maxHeartbeats 20000000
set_option maxRecDepth 100000 in
theorem change_c (p : PN) (mask : Int) (n : List Int) (h : Heap) (hl : p.clip.length ≤ 300) (hn : n.length ≤ 20) :
    ACalls Try.prog 12 [p.enc, .val (.int .i64 (mask)), .ro 1 (ints .i64 n)] h (fun r h' => r = .tup [(chgF p mask n).1.enc, .val (.int .i64 ((chgF p mask n).2))] ∧ h' = h) := by
  have tw := fun h => twin_c p h hl
  have ck := fun h => chk_c p h hl
  have fc := fun h => fields_c h
  unfold fieldsL at fc
  by_cases h0 : chkF p ≠ 0
  · rw [show chgF p mask n = (p, chkF p) by unfold chgF; rw [if_pos h0]]
    generalize chkF p = c at *
    simp only [pn_enc] at *
    refine ACalls.intro Try.func12 rfl Try.ntmps12 Try.results12 (Nat.le_of_ble_eq_true rfl) ?_
    (repeat' (first | (refine iS ?_; refine iMu ?_; refine S.mapU ?_) | refine svz ⟨fun b hq => ?_⟩ | refine sv1 ?_ | refine svs ⟨?_⟩ | refine svu ⟨fun u => ?_⟩ | (refine svg (fun hg => ?_) (fun hg => ?_) <;> try (exfalso; first | omega | contradiction)) | (refine svc (fun hc => ?_) (fun hc => ?_) <;> try (exfalso; first | omega | contradiction)) | refine sv2 ?_ | refine svh (fun hb => ?_) (fun hb => ?_) | refine svb (fun b => ?_) | refine sva ?_ | refine sv3 ?_))
    refine S.call ?_; refine (tw _).mono ?_; rintro r h' ⟨rfl, hh⟩; subst hh
    (repeat' (first | (refine iS ?_; refine iMu ?_; refine S.mapU ?_) | refine svz ⟨fun b hq => ?_⟩ | refine sv1 ?_ | refine svs ⟨?_⟩ | refine svu ⟨fun u => ?_⟩ | (refine svg (fun hg => ?_) (fun hg => ?_) <;> try (exfalso; first | omega | contradiction)) | (refine svc (fun hc => ?_) (fun hc => ?_) <;> try (exfalso; first | omega | contradiction)) | refine sv2 ?_ | refine svh (fun hb => ?_) (fun hb => ?_) | refine svb (fun b => ?_) | refine sva ?_ | refine sv3 ?_))
    refine S.call ?_; refine (ck _).mono ?_; rintro r h' ⟨rfl, hh⟩; subst hh
    (repeat' (first | (refine iS ?_; refine iMu ?_; refine S.mapU ?_) | refine svz ⟨fun b hq => ?_⟩ | refine sv1 ?_ | refine svs ⟨?_⟩ | refine svu ⟨fun u => ?_⟩ | (refine svg (fun hg => ?_) (fun hg => ?_) <;> try (exfalso; first | omega | contradiction)) | (refine svc (fun hc => ?_) (fun hc => ?_) <;> try (exfalso; first | omega | contradiction)) | refine sv2 ?_ | refine svh (fun hb => ?_) (fun hb => ?_) | refine svb (fun b => ?_) | refine sva ?_ | refine sv3 ?_))
    exact fin_r (h' := h) ⟨rfl, rfl⟩
  have hck : chkF p = 0 := by omega
  by_cases h1 : mask < 0 ∨ 31 < mask
  · rw [show chgF p mask n = (p, 10) by unfold chgF; rw [if_neg h0, if_pos h1]]
    rw [hck] at ck
    simp only [pn_enc] at *
    rcases h1 with h1 | h1
    · refine ACalls.intro Try.func12 rfl Try.ntmps12 Try.results12 (Nat.le_of_ble_eq_true rfl) ?_
      (repeat' (first | (refine iS ?_; refine iMu ?_; refine S.mapU ?_) | refine svz ⟨fun b hq => ?_⟩ | refine sv1 ?_ | refine svs ⟨?_⟩ | refine svu ⟨fun u => ?_⟩ | (refine svg (fun hg => ?_) (fun hg => ?_) <;> try (exfalso; first | omega | contradiction)) | (refine svc (fun hc => ?_) (fun hc => ?_) <;> try (exfalso; first | omega | contradiction)) | refine sv2 ?_ | refine svh (fun hb => ?_) (fun hb => ?_) | refine svb (fun b => ?_) | refine sva ?_ | refine sv3 ?_))
      refine S.call ?_; refine (tw _).mono ?_; rintro r h' ⟨rfl, hh⟩; subst hh
      (repeat' (first | (refine iS ?_; refine iMu ?_; refine S.mapU ?_) | refine svz ⟨fun b hq => ?_⟩ | refine sv1 ?_ | refine svs ⟨?_⟩ | refine svu ⟨fun u => ?_⟩ | (refine svg (fun hg => ?_) (fun hg => ?_) <;> try (exfalso; first | omega | contradiction)) | (refine svc (fun hc => ?_) (fun hc => ?_) <;> try (exfalso; first | omega | contradiction)) | refine sv2 ?_ | refine svh (fun hb => ?_) (fun hb => ?_) | refine svb (fun b => ?_) | refine sva ?_ | refine sv3 ?_))
      refine S.call ?_; refine (ck _).mono ?_; rintro r h' ⟨rfl, hh⟩; subst hh
      (repeat' (first | (refine iS ?_; refine iMu ?_; refine S.mapU ?_) | refine svz ⟨fun b hq => ?_⟩ | refine sv1 ?_ | refine svs ⟨?_⟩ | refine svu ⟨fun u => ?_⟩ | (refine svg (fun hg => ?_) (fun hg => ?_) <;> try (exfalso; first | omega | contradiction)) | (refine svc (fun hc => ?_) (fun hc => ?_) <;> try (exfalso; first | omega | contradiction)) | refine sv2 ?_ | refine svh (fun hb => ?_) (fun hb => ?_) | refine svb (fun b => ?_) | refine sva ?_ | refine sv3 ?_))
      exact fin_r (h' := h) ⟨rfl, rfl⟩
    · refine ACalls.intro Try.func12 rfl Try.ntmps12 Try.results12 (Nat.le_of_ble_eq_true rfl) ?_
      (repeat' (first | (refine iS ?_; refine iMu ?_; refine S.mapU ?_) | refine svz ⟨fun b hq => ?_⟩ | refine sv1 ?_ | refine svs ⟨?_⟩ | refine svu ⟨fun u => ?_⟩ | (refine svg (fun hg => ?_) (fun hg => ?_) <;> try (exfalso; first | omega | contradiction)) | (refine svc (fun hc => ?_) (fun hc => ?_) <;> try (exfalso; first | omega | contradiction)) | refine sv2 ?_ | refine svh (fun hb => ?_) (fun hb => ?_) | refine svb (fun b => ?_) | refine sva ?_ | refine sv3 ?_))
      refine S.call ?_; refine (tw _).mono ?_; rintro r h' ⟨rfl, hh⟩; subst hh
      (repeat' (first | (refine iS ?_; refine iMu ?_; refine S.mapU ?_) | refine svz ⟨fun b hq => ?_⟩ | refine sv1 ?_ | refine svs ⟨?_⟩ | refine svu ⟨fun u => ?_⟩ | (refine svg (fun hg => ?_) (fun hg => ?_) <;> try (exfalso; first | omega | contradiction)) | (refine svc (fun hc => ?_) (fun hc => ?_) <;> try (exfalso; first | omega | contradiction)) | refine sv2 ?_ | refine svh (fun hb => ?_) (fun hb => ?_) | refine svb (fun b => ?_) | refine sva ?_ | refine sv3 ?_))
      refine S.call ?_; refine (ck _).mono ?_; rintro r h' ⟨rfl, hh⟩; subst hh
      (repeat' (first | (refine iS ?_; refine iMu ?_; refine S.mapU ?_) | refine svz ⟨fun b hq => ?_⟩ | refine sv1 ?_ | refine svs ⟨?_⟩ | refine svu ⟨fun u => ?_⟩ | (refine svg (fun hg => ?_) (fun hg => ?_) <;> try (exfalso; first | omega | contradiction)) | (refine svc (fun hc => ?_) (fun hc => ?_) <;> try (exfalso; first | omega | contradiction)) | refine sv2 ?_ | refine svh (fun hb => ?_) (fun hb => ?_) | refine svb (fun b => ?_) | refine sva ?_ | refine sv3 ?_))
      exact fin_r (h' := h) ⟨rfl, rfl⟩
  by_cases h2 : n.length ≠ 5
  · rw [show chgF p mask n = (p, 14) by unfold chgF; rw [if_neg h0, if_neg h1, if_pos h2]]
    rw [hck] at ck
    simp only [pn_enc] at *
    refine ACalls.intro Try.func12 rfl Try.ntmps12 Try.results12 (Nat.le_of_ble_eq_true rfl) ?_
    (repeat' (first | (refine iS ?_; refine iMu ?_; refine S.mapU ?_) | refine svz ⟨fun b hq => ?_⟩ | refine sv1 ?_ | refine svs ⟨?_⟩ | refine svu ⟨fun u => ?_⟩ | (refine svg (fun hg => ?_) (fun hg => ?_) <;> try (exfalso; first | omega | contradiction)) | (refine svc (fun hc => ?_) (fun hc => ?_) <;> try (exfalso; first | omega | contradiction)) | refine sv2 ?_ | refine svh (fun hb => ?_) (fun hb => ?_) | refine svb (fun b => ?_) | refine sva ?_ | refine sv3 ?_))
    refine S.call ?_; refine (tw _).mono ?_; rintro r h' ⟨rfl, hh⟩; subst hh
    (repeat' (first | (refine iS ?_; refine iMu ?_; refine S.mapU ?_) | refine svz ⟨fun b hq => ?_⟩ | refine sv1 ?_ | refine svs ⟨?_⟩ | refine svu ⟨fun u => ?_⟩ | (refine svg (fun hg => ?_) (fun hg => ?_) <;> try (exfalso; first | omega | contradiction)) | (refine svc (fun hc => ?_) (fun hc => ?_) <;> try (exfalso; first | omega | contradiction)) | refine sv2 ?_ | refine svh (fun hb => ?_) (fun hb => ?_) | refine svb (fun b => ?_) | refine sva ?_ | refine sv3 ?_))
    refine S.call ?_; refine (ck _).mono ?_; rintro r h' ⟨rfl, hh⟩; subst hh
    (repeat' (first | (refine iS ?_; refine iMu ?_; refine S.mapU ?_) | refine svz ⟨fun b hq => ?_⟩ | refine sv1 ?_ | refine svs ⟨?_⟩ | refine svu ⟨fun u => ?_⟩ | (refine svg (fun hg => ?_) (fun hg => ?_) <;> try (exfalso; first | omega | contradiction)) | (refine svc (fun hc => ?_) (fun hc => ?_) <;> try (exfalso; first | omega | contradiction)) | refine sv2 ?_ | refine svh (fun hb => ?_) (fun hb => ?_) | refine svb (fun b => ?_) | refine sva ?_ | refine sv3 ?_))
    refine S.call ?_; refine (fc _).mono ?_; rintro r h' ⟨rfl, hh⟩; subst hh
    (repeat' (first | (refine iS ?_; refine iMu ?_; refine S.mapU ?_) | refine svz ⟨fun b hq => ?_⟩ | refine sv1 ?_ | refine svs ⟨?_⟩ | refine svu ⟨fun u => ?_⟩ | (refine svg (fun hg => ?_) (fun hg => ?_) <;> try (exfalso; first | omega | contradiction)) | (refine svc (fun hc => ?_) (fun hc => ?_) <;> try (exfalso; first | omega | contradiction)) | refine sv2 ?_ | refine svh (fun hb => ?_) (fun hb => ?_) | refine svb (fun b => ?_) | refine sva ?_ | refine sv3 ?_))
    exact fin_r (h' := h) ⟨rfl, rfl⟩
  have := change_ok p mask.toNat n h hl hck (by omega) (by omega)
  rwa [show ((mask.toNat : Nat) : Int) = mask by omega] at this
theorem and_bit2 {m : Nat} (hm : m < 32) : (bitsI .and .i64 (m : Int) 1 = 0 ↔ bitM m 0 = false) ∧ (bitsI .and .i64 (m : Int) 2 = 0 ↔ bitM m 1 = false) ∧ (bitsI .and .i64 (m : Int) 4 = 0 ↔ bitM m 2 = false) ∧ (bitsI .and .i64 (m : Int) 8 = 0 ↔ bitM m 3 = false) ∧ (bitsI .and .i64 (m : Int) 16 = 0 ↔ bitM m 4 = false) :=
  ⟨and_bit (i := 0) hm (by omega), and_bit (i := 1) hm (by omega), and_bit (i := 2) hm (by omega), and_bit (i := 3) hm (by omega), and_bit (i := 4) hm (by omega)⟩
theorem shr_all : (List.range 32).all (fun m => (List.range 5).all fun i => (bitsI .and .i64 ((m : Int) / ((2 ^ i : Nat) : Int)) 1 == 0) == !bitM m i) = true := by decide +kernel
theorem shr_bits {m : Nat} (hm : m < 32) (i : Nat) (hi : i < 5) : bitsI .and .i64 ((m : Int) / ((2 ^ i : Nat) : Int)) 1 = 0 ↔ bitM m i = false := by
  have := List.all_eq_true.1 (List.all_eq_true.1 shr_all m (List.mem_range.2 hm)) i (List.mem_range.2 hi)
  rw [beq_iff_eq] at this
  constructor
  · intro e
    rw [e] at this
    simpa using this.symm
  · intro e
    rw [e] at this
    simpa using this
theorem bit_t {e : Int} {b : Bool} (h : e = 0 ↔ b = false) (hne : e ≠ 0) : b = true := by
  cases b with
  | true => rfl
  | false => exact absurd (h.2 rfl) hne
theorem okN_f {m i : Nat} {n : List Int} (hb : bitM m i = true) (hv : okC i (n.getD i 0) = false) : okN m n i = false := by
  unfold okN; rw [hb, hv]; rfl
set_option maxRecDepth 100000 in
theorem rchange_c (p : PN) (mask : Int) (n : List Int) (h : Heap) (hl : p.clip.length ≤ 300) (hn : n.length ≤ 20) :
    ACalls Try.prog 13 [p.enc, .val (.int .i64 (mask)), .ro 1 (ints .i64 n)] h (fun r h' => r = .tup [(chgF p mask n).1.enc, .val (.int .i64 ((chgF p mask n).2))] ∧ h' = h) := by
  have ck := fun h => rchk_c p h hl
  by_cases h0 : chkF p ≠ 0
  · rw [show chgF p mask n = (p, chkF p) by unfold chgF; rw [if_pos h0]]
    generalize chkF p = c at *
    simp only [pn_enc] at *
    refine ACalls.intro Try.func13 rfl Try.ntmps13 Try.results13 (Nat.le_of_ble_eq_true rfl) ?_
    (repeat' (first | (refine iS ?_; refine iMu ?_; refine S.mapU ?_) | refine svz ⟨fun b hq => ?_⟩ | refine sv1 ?_ | refine svs ⟨?_⟩ | refine svu ⟨fun u => ?_⟩ | (refine svg (fun hg => ?_) (fun hg => ?_) <;> try (exfalso; first | omega | contradiction)) | (refine svc (fun hc => ?_) (fun hc => ?_) <;> try (exfalso; first | omega | contradiction)) | refine sv2 ?_ | refine svh (fun hb => ?_) (fun hb => ?_) | refine svb (fun b => ?_) | refine sva ?_ | refine sv3 ?_))
    refine S.call ?_; refine (ck _).mono ?_; rintro r h' ⟨rfl, hh⟩; subst hh
    (repeat' (first | (refine iS ?_; refine iMu ?_; refine S.mapU ?_) | refine svz ⟨fun b hq => ?_⟩ | refine sv1 ?_ | refine svs ⟨?_⟩ | refine svu ⟨fun u => ?_⟩ | (refine svg (fun hg => ?_) (fun hg => ?_) <;> try (exfalso; first | omega | contradiction)) | (refine svc (fun hc => ?_) (fun hc => ?_) <;> try (exfalso; first | omega | contradiction)) | refine sv2 ?_ | refine svh (fun hb => ?_) (fun hb => ?_) | refine svb (fun b => ?_) | refine sva ?_ | refine sv3 ?_))
    exact fin_r (h' := h) ⟨rfl, rfl⟩
  have hck : chkF p = 0 := by omega
  rw [hck] at ck
  by_cases h1 : mask < 0 ∨ 31 < mask
  · rw [show chgF p mask n = (p, 10) by unfold chgF; rw [if_neg h0, if_pos h1]]
    simp only [pn_enc] at *
    rcases h1 with h1 | h1
    · refine ACalls.intro Try.func13 rfl Try.ntmps13 Try.results13 (Nat.le_of_ble_eq_true rfl) ?_
      (repeat' (first | (refine iS ?_; refine iMu ?_; refine S.mapU ?_) | refine svz ⟨fun b hq => ?_⟩ | refine sv1 ?_ | refine svs ⟨?_⟩ | refine svu ⟨fun u => ?_⟩ | (refine svg (fun hg => ?_) (fun hg => ?_) <;> try (exfalso; first | omega | contradiction)) | (refine svc (fun hc => ?_) (fun hc => ?_) <;> try (exfalso; first | omega | contradiction)) | refine sv2 ?_ | refine svh (fun hb => ?_) (fun hb => ?_) | refine svb (fun b => ?_) | refine sva ?_ | refine sv3 ?_))
      refine S.call ?_; refine (ck _).mono ?_; rintro r h' ⟨rfl, hh⟩; subst hh
      (repeat' (first | (refine iS ?_; refine iMu ?_; refine S.mapU ?_) | refine svz ⟨fun b hq => ?_⟩ | refine sv1 ?_ | refine svs ⟨?_⟩ | refine svu ⟨fun u => ?_⟩ | (refine svg (fun hg => ?_) (fun hg => ?_) <;> try (exfalso; first | omega | contradiction)) | (refine svc (fun hc => ?_) (fun hc => ?_) <;> try (exfalso; first | omega | contradiction)) | refine sv2 ?_ | refine svh (fun hb => ?_) (fun hb => ?_) | refine svb (fun b => ?_) | refine sva ?_ | refine sv3 ?_))
      exact fin_r (h' := h) ⟨rfl, rfl⟩
    · refine ACalls.intro Try.func13 rfl Try.ntmps13 Try.results13 (Nat.le_of_ble_eq_true rfl) ?_
      (repeat' (first | (refine iS ?_; refine iMu ?_; refine S.mapU ?_) | refine svz ⟨fun b hq => ?_⟩ | refine sv1 ?_ | refine svs ⟨?_⟩ | refine svu ⟨fun u => ?_⟩ | (refine svg (fun hg => ?_) (fun hg => ?_) <;> try (exfalso; first | omega | contradiction)) | (refine svc (fun hc => ?_) (fun hc => ?_) <;> try (exfalso; first | omega | contradiction)) | refine sv2 ?_ | refine svh (fun hb => ?_) (fun hb => ?_) | refine svb (fun b => ?_) | refine sva ?_ | refine sv3 ?_))
      refine S.call ?_; refine (ck _).mono ?_; rintro r h' ⟨rfl, hh⟩; subst hh
      (repeat' (first | (refine iS ?_; refine iMu ?_; refine S.mapU ?_) | refine svz ⟨fun b hq => ?_⟩ | refine sv1 ?_ | refine svs ⟨?_⟩ | refine svu ⟨fun u => ?_⟩ | (refine svg (fun hg => ?_) (fun hg => ?_) <;> try (exfalso; first | omega | contradiction)) | (refine svc (fun hc => ?_) (fun hc => ?_) <;> try (exfalso; first | omega | contradiction)) | refine sv2 ?_ | refine svh (fun hb => ?_) (fun hb => ?_) | refine svb (fun b => ?_) | refine sva ?_ | refine sv3 ?_))
      exact fin_r (h' := h) ⟨rfl, rfl⟩
  by_cases h2 : n.length ≠ 5
  · rw [show chgF p mask n = (p, 14) by unfold chgF; rw [if_neg h0, if_neg h1, if_pos h2]]
    simp only [pn_enc] at *
    refine ACalls.intro Try.func13 rfl Try.ntmps13 Try.results13 (Nat.le_of_ble_eq_true rfl) ?_
    (repeat' (first | (refine iS ?_; refine iMu ?_; refine S.mapU ?_) | refine svz ⟨fun b hq => ?_⟩ | refine sv1 ?_ | refine svs ⟨?_⟩ | refine svu ⟨fun u => ?_⟩ | (refine svg (fun hg => ?_) (fun hg => ?_) <;> try (exfalso; first | omega | contradiction)) | (refine svc (fun hc => ?_) (fun hc => ?_) <;> try (exfalso; first | omega | contradiction)) | refine sv2 ?_ | refine svh (fun hb => ?_) (fun hb => ?_) | refine svb (fun b => ?_) | refine sva ?_ | refine sv3 ?_))
    refine S.call ?_; refine (ck _).mono ?_; rintro r h' ⟨rfl, hh⟩; subst hh
    (repeat' (first | (refine iS ?_; refine iMu ?_; refine S.mapU ?_) | refine svz ⟨fun b hq => ?_⟩ | refine sv1 ?_ | refine svs ⟨?_⟩ | refine svu ⟨fun u => ?_⟩ | (refine svg (fun hg => ?_) (fun hg => ?_) <;> try (exfalso; first | omega | contradiction)) | (refine svc (fun hc => ?_) (fun hc => ?_) <;> try (exfalso; first | omega | contradiction)) | refine sv2 ?_ | refine svh (fun hb => ?_) (fun hb => ?_) | refine svb (fun b => ?_) | refine sva ?_ | refine sv3 ?_))
    exact fin_r (h' := h) ⟨rfl, rfl⟩
  obtain ⟨m, rfl⟩ : ∃ m : Nat, mask = (m : Int) := ⟨mask.toNat, by omega⟩
  have hm : m < 32 := by omega
  obtain ⟨n0, n1, n2, n3, n4, rfl⟩ : ∃ n0 n1 n2 n3 n4, n = [n0, n1, n2, n3, n4] := by
    match n, (show n.length = 5 by omega) with
    | [n0, n1, n2, n3, n4], _ => exact ⟨n0, n1, n2, n3, n4, rfl⟩
  obtain ⟨b0, b1, b2, b3', b4⟩ := and_bit2 hm
  have sb := shr_bits hm
  have ef : ∀ q : PN, q.enc = .agg q.cells := fun q => rfl
  simp only [pn_enc] at *
  refine ACalls.intro Try.func13 rfl Try.ntmps13 Try.results13 (Nat.le_of_ble_eq_true rfl) ?_
  (repeat' (first | (refine iS ?_; refine iMu ?_; refine S.mapU ?_) | refine svz ⟨fun b hq => ?_⟩ | refine sv1 ?_ | refine svs ⟨?_⟩ | refine svu ⟨fun u => ?_⟩ | (refine svg (fun hg => ?_) (fun hg => ?_) <;> try (exfalso; first | omega | contradiction)) | (refine svc (fun hc => ?_) (fun hc => ?_) <;> try (exfalso; first | omega | contradiction)) | refine sv2 ?_ | refine svh (fun hb => ?_) (fun hb => ?_) | refine svb (fun b => ?_)))
  rename_i b3
  revert b; intro b6
  refine W.mid (J := fun _ : Unit => ⟨113, [(6, .val (.pointer (some ⟨b6, 0, none⟩))), (3, .val (.pointer (some ⟨b3, 0, none⟩))), (1, .val (.int .i64 (m))), (2, .ro 1 (ints .i64 [n0, n1, n2, n3, n4]))], .box b6 [.val (.int .i64 (0)), .val (.int .u8 (0)), .val (.int .u8 (0)), .val (.int .u8 (0)), .val (.int .u32 0), .val (.int .i64 (0)), .val (.int .i64 (0)), .val (.bool false), .val (.slice none 0 0)] 34 :: .box b3 [.val (.int .i64 (p.fn)), .val (.int .u8 (p.pl)), .val (.int .u8 (p.fo)), .val (.int .u8 (p.ba)), .val (.int .u32 p.ft), .val (.int .i64 (p.x)), .val (.int .i64 (p.y)), .val (.bool p.cl), .ro 4 (p.clip.map RC.enc)] 34 :: h⟩) (Φ := fun _ => True) ?_ ?_
  · (repeat' (first | (refine iS ?_; refine iMu ?_; refine S.mapU ?_) | refine svz ⟨fun b hq => ?_⟩ | refine sv1 ?_ | refine svs ⟨?_⟩ | refine svu ⟨fun u => ?_⟩ | (refine svg (fun hg => ?_) (fun hg => ?_) <;> try (exfalso; first | omega | contradiction)) | (refine svc (fun hc => ?_) (fun hc => ?_) <;> try (exfalso; first | omega | contradiction)) | refine sv2 ?_ | refine svh (fun hb => ?_) (fun hb => ?_) | refine svb (fun b => ?_) | refine sva ?_ | refine sv3 ?_))
    refine S.call ?_; refine (ck _).mono ?_; rintro r h' ⟨rfl, hh⟩; subst hh
    (repeat' (first | (refine iS ?_; refine iMu ?_; refine S.mapU ?_) | refine svz ⟨fun b hq => ?_⟩ | refine sv1 ?_ | refine svs ⟨?_⟩ | refine svu ⟨fun u => ?_⟩ | (refine svg (fun hg => ?_) (fun hg => ?_) <;> try (exfalso; first | omega | contradiction)) | (refine svc (fun hc => ?_) (fun hc => ?_) <;> try (exfalso; first | omega | contradiction)) | refine sv2 ?_ | refine svh (fun hb => ?_) (fun hb => ?_) | refine svb (fun b => ?_) | refine sva ?_ | refine sv3 ?_))
    exact ⟨(), trivial, lee⟩
  rintro ⟨⟩ _
  clear ck
  (repeat' (first | (refine iS ?_; refine iMu ?_; refine S.mapU ?_) | refine svz ⟨fun b hq => ?_⟩ | refine sv1 ?_ | refine svs ⟨?_⟩ | refine svu ⟨fun u => ?_⟩ | (refine svg (fun hg => ?_) (fun hg => ?_) <;> try (exfalso; first | omega | contradiction)) | (refine svc (fun hc => ?_) (fun hc => ?_) <;> try (exfalso; first | omega | contradiction)) | refine sv2 ?_ | refine svh (fun hb => ?_) (fun hb => ?_) | refine svb (fun b => ?_)))
  refine W.mid (J := fun _ : Unit => ⟨113, [(6, .val (.pointer (some ⟨b6, 0, none⟩))), (3, .val (.pointer (some ⟨b3, 0, none⟩))), (1, .val (.int .i64 (m))), (2, .ro 1 (ints .i64 [n0, n1, n2, n3, n4]))], .box b6 [.val (.int .i64 (0)), .val (.int .u8 (0)), .val (.int .u8 (0)), .val (.int .u8 (0)), .val (.int .u32 0), .val (.int .i64 (0)), .val (.int .i64 (0)), .val (.bool false), .val (.slice none 0 0)] 34 :: .box b3 [.val (.int .i64 (p.fn)), .val (.int .u8 (p.pl)), .val (.int .u8 (p.fo)), .val (.int .u8 (p.ba)), .val (.int .u32 p.ft), .val (.int .i64 (p.x)), .val (.int .i64 (p.y)), .val (.bool p.cl), .ro 4 (p.clip.map RC.enc)] 34 :: h⟩) (Φ := fun _ => True) ?_ ?_
  · (repeat' (first | (refine iS ?_; refine iMu ?_; refine S.mapU ?_) | refine svz ⟨fun b hq => ?_⟩ | refine sv1 ?_ | refine svs ⟨?_⟩ | refine svu ⟨fun u => ?_⟩ | (refine svg (fun hg => ?_) (fun hg => ?_) <;> try (exfalso; first | omega | contradiction)) | (refine svc (fun hc => ?_) (fun hc => ?_) <;> try (exfalso; first | omega | contradiction)) | refine sv2 ?_ | refine svh (fun hb => ?_) (fun hb => ?_) | refine svb (fun b => ?_) | refine sva ?_ | refine sv3 ?_))
    exact ⟨(), trivial, lee⟩
  rintro ⟨⟩ _
  (repeat' (first | (refine iS ?_; refine iMu ?_; refine S.mapU ?_) | refine svz ⟨fun b hq => ?_⟩ | refine sv1 ?_ | refine svs ⟨?_⟩ | refine svu ⟨fun u => ?_⟩ | (refine svg (fun hg => ?_) (fun hg => ?_) <;> try (exfalso; first | omega | contradiction)) | (refine svc (fun hc => ?_) (fun hc => ?_) <;> try (exfalso; first | omega | contradiction)) | refine sv2 ?_ | refine svh (fun hb => ?_) (fun hb => ?_) | refine svb (fun b => ?_)))
  refine W.mid (J := fun _ : Unit => ⟨113, [(6, .val (.pointer (some ⟨b6, 0, none⟩))), (3, .val (.pointer (some ⟨b3, 0, none⟩))), (1, .val (.int .i64 (m))), (2, .ro 1 (ints .i64 [n0, n1, n2, n3, n4]))], .box b6 [.val (.int .i64 (0)), .val (.int .u8 (0)), .val (.int .u8 (0)), .val (.int .u8 (0)), .val (.int .u32 0), .val (.int .i64 (0)), .val (.int .i64 (0)), .val (.bool false), .val (.slice none 0 0)] 34 :: .box b3 [.val (.int .i64 (p.fn)), .val (.int .u8 (p.pl)), .val (.int .u8 (p.fo)), .val (.int .u8 (p.ba)), .val (.int .u32 p.ft), .val (.int .i64 (p.x)), .val (.int .i64 (p.y)), .val (.bool p.cl), .ro 4 (p.clip.map RC.enc)] 34 :: h⟩) (Φ := fun _ => True) ?_ ?_
  · (repeat' (first | (refine iS ?_; refine iMu ?_; refine S.mapU ?_) | refine svz ⟨fun b hq => ?_⟩ | refine sv1 ?_ | refine svs ⟨?_⟩ | refine svu ⟨fun u => ?_⟩ | (refine svg (fun hg => ?_) (fun hg => ?_) <;> try (exfalso; first | omega | contradiction)) | (refine svc (fun hc => ?_) (fun hc => ?_) <;> try (exfalso; first | omega | contradiction)) | refine sv2 ?_ | refine svh (fun hb => ?_) (fun hb => ?_) | refine svb (fun b => ?_) | refine sva ?_ | refine sv3 ?_))
    exact ⟨(), trivial, lee⟩
  rintro ⟨⟩ _
  (repeat' (first | (refine iS ?_; refine iMu ?_; refine S.mapU ?_) | refine svz ⟨fun b hq => ?_⟩ | refine sv1 ?_ | refine svs ⟨?_⟩ | refine svu ⟨fun u => ?_⟩ | (refine svg (fun hg => ?_) (fun hg => ?_) <;> try (exfalso; first | omega | contradiction)) | (refine svc (fun hc => ?_) (fun hc => ?_) <;> try (exfalso; first | omega | contradiction)) | refine sv2 ?_ | refine svh (fun hb => ?_) (fun hb => ?_) | refine svb (fun b => ?_)))
  refine W.mid (J := fun _ : Unit => ⟨113, [(6, .val (.pointer (some ⟨b6, 0, none⟩))), (3, .val (.pointer (some ⟨b3, 0, none⟩))), (1, .val (.int .i64 (m))), (2, .ro 1 (ints .i64 [n0, n1, n2, n3, n4]))], .box b6 [.val (.int .i64 (0)), .val (.int .u8 (0)), .val (.int .u8 (0)), .val (.int .u8 (0)), .val (.int .u32 0), .val (.int .i64 (0)), .val (.int .i64 (0)), .val (.bool false), .val (.slice none 0 0)] 34 :: .box b3 [.val (.int .i64 (p.fn)), .val (.int .u8 (p.pl)), .val (.int .u8 (p.fo)), .val (.int .u8 (p.ba)), .val (.int .u32 p.ft), .val (.int .i64 (p.x)), .val (.int .i64 (p.y)), .val (.bool p.cl), .ro 4 (p.clip.map RC.enc)] 34 :: h⟩) (Φ := fun _ => okN m [n0, n1, n2, n3, n4] 0 = true) ?_ ?_
  · (repeat' (first | (refine iS ?_; refine iMu ?_; refine S.mapU ?_) | refine svz ⟨fun b hq => ?_⟩ | refine sv1 ?_ | refine svs ⟨?_⟩ | refine svu ⟨fun u => ?_⟩ | (refine svg (fun hg => ?_) (fun hg => ?_) <;> try (exfalso; first | omega | contradiction)) | (refine svc (fun hc => ?_) (fun hc => ?_) <;> try (exfalso; first | omega | contradiction)) | refine sv2 ?_ | refine svh (fun hb => ?_) (fun hb => ?_) | refine svb (fun b => ?_) | refine sva ?_ | refine sv3 ?_))
    · have hR := chg_bad (n := [n0, n1, n2, n3, n4]) hck hm rfl (i := 0) (by omega) (okN_f (bit_t b0 (by assumption)) (decide_eq_false (by show ¬ (0 ≤ n0 ∧ n0 ≤ 15); omega))) (by omega)
      rw [hR]
      exact fin_r (h' := h) ⟨rfl, rfl⟩
    · exact ⟨(), (okN_put _ _ _).2 (fun _ => decide_eq_true ⟨by show 0 ≤ n0; omega, by show n0 ≤ 15; omega⟩), lee⟩
    · have hR := chg_bad (n := [n0, n1, n2, n3, n4]) hck hm rfl (i := 0) (by omega) (okN_f (bit_t b0 (by assumption)) (decide_eq_false (by show ¬ (0 ≤ n0 ∧ n0 ≤ 15); omega))) (by omega)
      rw [hR]
      exact fin_r (h' := h) ⟨rfl, rfl⟩
    · rename_i g
      exact ⟨(), (okN_put _ _ _).2 (fun q => by rw [b0.1 (Decidable.of_not_not g)] at q; cases q), lee⟩
  rintro ⟨⟩ ok0
  (repeat' (first | (refine iS ?_; refine iMu ?_; refine S.mapU ?_) | refine svz ⟨fun b hq => ?_⟩ | refine sv1 ?_ | refine svs ⟨?_⟩ | refine svu ⟨fun u => ?_⟩ | (refine svg (fun hg => ?_) (fun hg => ?_) <;> try (exfalso; first | omega | contradiction)) | (refine svc (fun hc => ?_) (fun hc => ?_) <;> try (exfalso; first | omega | contradiction)) | refine sv2 ?_ | refine svh (fun hb => ?_) (fun hb => ?_) | refine svb (fun b => ?_)))
  refine W.mid (J := fun _ : Unit => ⟨113, [(6, .val (.pointer (some ⟨b6, 0, none⟩))), (3, .val (.pointer (some ⟨b3, 0, none⟩))), (1, .val (.int .i64 (m))), (2, .ro 1 (ints .i64 [n0, n1, n2, n3, n4]))], .box b6 [.val (.int .i64 (0)), .val (.int .u8 (0)), .val (.int .u8 (0)), .val (.int .u8 (0)), .val (.int .u32 0), .val (.int .i64 (0)), .val (.int .i64 (0)), .val (.bool false), .val (.slice none 0 0)] 34 :: .box b3 [.val (.int .i64 (p.fn)), .val (.int .u8 (p.pl)), .val (.int .u8 (p.fo)), .val (.int .u8 (p.ba)), .val (.int .u32 p.ft), .val (.int .i64 (p.x)), .val (.int .i64 (p.y)), .val (.bool p.cl), .ro 4 (p.clip.map RC.enc)] 34 :: h⟩) (Φ := fun _ => ∀ j, j < 5 → okN m [n0, n1, n2, n3, n4] j = true) ?_ ?_
  · (repeat' (first | (refine iS ?_; refine iMu ?_; refine S.mapU ?_) | refine svz ⟨fun b hq => ?_⟩ | refine sv1 ?_ | refine svs ⟨?_⟩ | refine svu ⟨fun u => ?_⟩ | (refine svg (fun hg => ?_) (fun hg => ?_) <;> try (exfalso; first | omega | contradiction)) | (refine svc (fun hc => ?_) (fun hc => ?_) <;> try (exfalso; first | omega | contradiction)) | refine sv2 ?_ | refine svh (fun hb => ?_) (fun hb => ?_) | refine svb (fun b => ?_) | refine sva ?_ | refine sv3 ?_))
    refine W.loop (J := fun i : Nat => ⟨113, [(9, .val (.int .i64 (i))), (6, .val (.pointer (some ⟨b6, 0, none⟩))), (3, .val (.pointer (some ⟨b3, 0, none⟩))), (1, .val (.int .i64 (m))), (2, .ro 1 (ints .i64 [n0, n1, n2, n3, n4]))], .box b6 [.val (.int .i64 (0)), .val (.int .u8 (0)), .val (.int .u8 (0)), .val (.int .u8 (0)), .val (.int .u32 0), .val (.int .i64 (0)), .val (.int .i64 (0)), .val (.bool false), .val (.slice none 0 0)] 34 :: .box b3 [.val (.int .i64 (p.fn)), .val (.int .u8 (p.pl)), .val (.int .u8 (p.fo)), .val (.int .u8 (p.ba)), .val (.int .u32 p.ft), .val (.int .i64 (p.x)), .val (.int .i64 (p.y)), .val (.bool p.cl), .ro 4 (p.clip.map RC.enc)] 34 :: h⟩)
      (Φ := fun i => 1 ≤ i ∧ i ≤ 5 ∧ ∀ j, j < i → okN m [n0, n1, n2, n3, n4] j = true) (μ := fun i => 5 - i) 1 lee ⟨by omega, by omega, fun j hj => (show j = 0 by omega) ▸ ok0⟩ ?_
    rintro i ⟨hi1, hi2, hI⟩
    rcases (by omega : i = 1 ∨ i = 2 ∨ i = 3 ∨ i = 4 ∨ i = 5) with rfl | rfl | rfl | rfl | rfl
    · have sb1 : bitsI .and .i64 ((m : Int) / ((2 : Nat) : Int)) 1 = 0 ↔ bitM m 1 = false := sb 1 (by omega)
      clear sb
      refine W.le (s' := ⟨113, [(9, .val (.int .i64 (1))), (6, .val (.pointer (some ⟨b6, 0, none⟩))), (3, .val (.pointer (some ⟨b3, 0, none⟩))), (1, .val (.int .i64 (m))), (2, .ro 1 (ints .i64 [n0, n1, n2, n3, n4]))], .box b6 [.val (.int .i64 (0)), .val (.int .u8 (0)), .val (.int .u8 (0)), .val (.int .u8 (0)), .val (.int .u32 0), .val (.int .i64 (0)), .val (.int .i64 (0)), .val (.bool false), .val (.slice none 0 0)] 34 :: .box b3 [.val (.int .i64 (p.fn)), .val (.int .u8 (p.pl)), .val (.int .u8 (p.fo)), .val (.int .u8 (p.ba)), .val (.int .u32 p.ft), .val (.int .i64 (p.x)), .val (.int .i64 (p.y)), .val (.bool p.cl), .ro 4 (p.clip.map RC.enc)] 34 :: h⟩) lee ?_
      (repeat' (first | (refine iS ?_; refine iMu ?_; refine S.mapU ?_) | refine svz ⟨fun b hq => ?_⟩ | refine sv1 ?_ | refine svs ⟨?_⟩ | refine svu ⟨fun u => ?_⟩ | (refine svg (fun hg => ?_) (fun hg => ?_) <;> try (exfalso; first | omega | contradiction)) | (refine svc (fun hc => ?_) (fun hc => ?_) <;> try (exfalso; first | omega | contradiction)) | refine sv2 ?_ | refine svh (fun hb => ?_) (fun hb => ?_) | refine svb (fun b => ?_) | refine sva ?_ | refine sv3 ?_))
      · have hR := chg_bad (n := [n0, n1, n2, n3, n4]) hck hm rfl (i := 1) hI (okN_f (bit_t sb1 (by assumption)) (decide_eq_false (by show ¬ (0 ≤ n1 ∧ n1 ≤ 255); omega))) (by omega)
        rw [hR]
        exact fin_r (h' := h) ⟨rfl, rfl⟩
      · exact ⟨2, ⟨by omega, by omega, okS hI ((okN_put _ _ _).2 (fun _ => decide_eq_true ⟨by show 0 ≤ n1; omega, by show n1 ≤ 255; omega⟩))⟩, lee, by omega⟩
      · have hR := chg_bad (n := [n0, n1, n2, n3, n4]) hck hm rfl (i := 1) hI (okN_f (bit_t sb1 (by assumption)) (decide_eq_false (by show ¬ (0 ≤ n1 ∧ n1 ≤ 255); omega))) (by omega)
        rw [hR]
        exact fin_r (h' := h) ⟨rfl, rfl⟩
      · rename_i g
        exact ⟨2, ⟨by omega, by omega, okS hI ((okN_put _ _ _).2 (fun q => by rw [sb1.1 (Decidable.of_not_not g)] at q; cases q))⟩, lee, by omega⟩
    · have sb1 : bitsI .and .i64 ((m : Int) / ((4 : Nat) : Int)) 1 = 0 ↔ bitM m 2 = false := sb 2 (by omega)
      clear sb
      refine W.le (s' := ⟨113, [(9, .val (.int .i64 (2))), (6, .val (.pointer (some ⟨b6, 0, none⟩))), (3, .val (.pointer (some ⟨b3, 0, none⟩))), (1, .val (.int .i64 (m))), (2, .ro 1 (ints .i64 [n0, n1, n2, n3, n4]))], .box b6 [.val (.int .i64 (0)), .val (.int .u8 (0)), .val (.int .u8 (0)), .val (.int .u8 (0)), .val (.int .u32 0), .val (.int .i64 (0)), .val (.int .i64 (0)), .val (.bool false), .val (.slice none 0 0)] 34 :: .box b3 [.val (.int .i64 (p.fn)), .val (.int .u8 (p.pl)), .val (.int .u8 (p.fo)), .val (.int .u8 (p.ba)), .val (.int .u32 p.ft), .val (.int .i64 (p.x)), .val (.int .i64 (p.y)), .val (.bool p.cl), .ro 4 (p.clip.map RC.enc)] 34 :: h⟩) lee ?_
      (repeat' (first | (refine iS ?_; refine iMu ?_; refine S.mapU ?_) | refine svz ⟨fun b hq => ?_⟩ | refine sv1 ?_ | refine svs ⟨?_⟩ | refine svu ⟨fun u => ?_⟩ | (refine svg (fun hg => ?_) (fun hg => ?_) <;> try (exfalso; first | omega | contradiction)) | (refine svc (fun hc => ?_) (fun hc => ?_) <;> try (exfalso; first | omega | contradiction)) | refine sv2 ?_ | refine svh (fun hb => ?_) (fun hb => ?_) | refine svb (fun b => ?_) | refine sva ?_ | refine sv3 ?_))
      · have hR := chg_bad (n := [n0, n1, n2, n3, n4]) hck hm rfl (i := 2) hI (okN_f (bit_t sb1 (by assumption)) (decide_eq_false (by show ¬ (0 ≤ n2 ∧ n2 ≤ 255); omega))) (by omega)
        rw [hR]
        exact fin_r (h' := h) ⟨rfl, rfl⟩
      · exact ⟨3, ⟨by omega, by omega, okS hI ((okN_put _ _ _).2 (fun _ => decide_eq_true ⟨by show 0 ≤ n2; omega, by show n2 ≤ 255; omega⟩))⟩, lee, by omega⟩
      · have hR := chg_bad (n := [n0, n1, n2, n3, n4]) hck hm rfl (i := 2) hI (okN_f (bit_t sb1 (by assumption)) (decide_eq_false (by show ¬ (0 ≤ n2 ∧ n2 ≤ 255); omega))) (by omega)
        rw [hR]
        exact fin_r (h' := h) ⟨rfl, rfl⟩
      · rename_i g
        exact ⟨3, ⟨by omega, by omega, okS hI ((okN_put _ _ _).2 (fun q => by rw [sb1.1 (Decidable.of_not_not g)] at q; cases q))⟩, lee, by omega⟩
    · have sb1 : bitsI .and .i64 ((m : Int) / ((8 : Nat) : Int)) 1 = 0 ↔ bitM m 3 = false := sb 3 (by omega)
      clear sb
      refine W.le (s' := ⟨113, [(9, .val (.int .i64 (3))), (6, .val (.pointer (some ⟨b6, 0, none⟩))), (3, .val (.pointer (some ⟨b3, 0, none⟩))), (1, .val (.int .i64 (m))), (2, .ro 1 (ints .i64 [n0, n1, n2, n3, n4]))], .box b6 [.val (.int .i64 (0)), .val (.int .u8 (0)), .val (.int .u8 (0)), .val (.int .u8 (0)), .val (.int .u32 0), .val (.int .i64 (0)), .val (.int .i64 (0)), .val (.bool false), .val (.slice none 0 0)] 34 :: .box b3 [.val (.int .i64 (p.fn)), .val (.int .u8 (p.pl)), .val (.int .u8 (p.fo)), .val (.int .u8 (p.ba)), .val (.int .u32 p.ft), .val (.int .i64 (p.x)), .val (.int .i64 (p.y)), .val (.bool p.cl), .ro 4 (p.clip.map RC.enc)] 34 :: h⟩) lee ?_
      (repeat' (first | (refine iS ?_; refine iMu ?_; refine S.mapU ?_) | refine svz ⟨fun b hq => ?_⟩ | refine sv1 ?_ | refine svs ⟨?_⟩ | refine svu ⟨fun u => ?_⟩ | (refine svg (fun hg => ?_) (fun hg => ?_) <;> try (exfalso; first | omega | contradiction)) | (refine svc (fun hc => ?_) (fun hc => ?_) <;> try (exfalso; first | omega | contradiction)) | refine sv2 ?_ | refine svh (fun hb => ?_) (fun hb => ?_) | refine svb (fun b => ?_) | refine sva ?_ | refine sv3 ?_))
      · have hR := chg_bad (n := [n0, n1, n2, n3, n4]) hck hm rfl (i := 3) hI (okN_f (bit_t sb1 (by assumption)) (decide_eq_false (by show ¬ (0 ≤ n3 ∧ n3 ≤ 255); omega))) (by omega)
        rw [hR]
        exact fin_r (h' := h) ⟨rfl, rfl⟩
      · exact ⟨4, ⟨by omega, by omega, okS hI ((okN_put _ _ _).2 (fun _ => decide_eq_true ⟨by show 0 ≤ n3; omega, by show n3 ≤ 255; omega⟩))⟩, lee, by omega⟩
      · have hR := chg_bad (n := [n0, n1, n2, n3, n4]) hck hm rfl (i := 3) hI (okN_f (bit_t sb1 (by assumption)) (decide_eq_false (by show ¬ (0 ≤ n3 ∧ n3 ≤ 255); omega))) (by omega)
        rw [hR]
        exact fin_r (h' := h) ⟨rfl, rfl⟩
      · rename_i g
        exact ⟨4, ⟨by omega, by omega, okS hI ((okN_put _ _ _).2 (fun q => by rw [sb1.1 (Decidable.of_not_not g)] at q; cases q))⟩, lee, by omega⟩
    · have sb1 : bitsI .and .i64 ((m : Int) / ((16 : Nat) : Int)) 1 = 0 ↔ bitM m 4 = false := sb 4 (by omega)
      clear sb
      refine W.le (s' := ⟨113, [(9, .val (.int .i64 (4))), (6, .val (.pointer (some ⟨b6, 0, none⟩))), (3, .val (.pointer (some ⟨b3, 0, none⟩))), (1, .val (.int .i64 (m))), (2, .ro 1 (ints .i64 [n0, n1, n2, n3, n4]))], .box b6 [.val (.int .i64 (0)), .val (.int .u8 (0)), .val (.int .u8 (0)), .val (.int .u8 (0)), .val (.int .u32 0), .val (.int .i64 (0)), .val (.int .i64 (0)), .val (.bool false), .val (.slice none 0 0)] 34 :: .box b3 [.val (.int .i64 (p.fn)), .val (.int .u8 (p.pl)), .val (.int .u8 (p.fo)), .val (.int .u8 (p.ba)), .val (.int .u32 p.ft), .val (.int .i64 (p.x)), .val (.int .i64 (p.y)), .val (.bool p.cl), .ro 4 (p.clip.map RC.enc)] 34 :: h⟩) lee ?_
      (repeat' (first | (refine iS ?_; refine iMu ?_; refine S.mapU ?_) | refine svz ⟨fun b hq => ?_⟩ | refine sv1 ?_ | refine svs ⟨?_⟩ | refine svu ⟨fun u => ?_⟩ | (refine svg (fun hg => ?_) (fun hg => ?_) <;> try (exfalso; first | omega | contradiction)) | (refine svc (fun hc => ?_) (fun hc => ?_) <;> try (exfalso; first | omega | contradiction)) | refine sv2 ?_ | refine svh (fun hb => ?_) (fun hb => ?_) | refine svb (fun b => ?_) | refine sva ?_ | refine sv3 ?_))
      · have hR := chg_bad (n := [n0, n1, n2, n3, n4]) hck hm rfl (i := 4) hI (okN_f (bit_t sb1 (by assumption)) (decide_eq_false (by show ¬ (0 ≤ n4 ∧ n4 ≤ 4294967295); omega))) (by omega)
        rw [hR]
        exact fin_r (h' := h) ⟨rfl, rfl⟩
      · exact ⟨5, ⟨by omega, by omega, okS hI ((okN_put _ _ _).2 (fun _ => decide_eq_true ⟨by show 0 ≤ n4; omega, by show n4 ≤ 4294967295; omega⟩))⟩, lee, by omega⟩
      · have hR := chg_bad (n := [n0, n1, n2, n3, n4]) hck hm rfl (i := 4) hI (okN_f (bit_t sb1 (by assumption)) (decide_eq_false (by show ¬ (0 ≤ n4 ∧ n4 ≤ 4294967295); omega))) (by omega)
        rw [hR]
        exact fin_r (h' := h) ⟨rfl, rfl⟩
      · rename_i g
        exact ⟨5, ⟨by omega, by omega, okS hI ((okN_put _ _ _).2 (fun q => by rw [sb1.1 (Decidable.of_not_not g)] at q; cases q))⟩, lee, by omega⟩
    · refine W.le (s' := ⟨113, [(9, .val (.int .i64 (5))), (6, .val (.pointer (some ⟨b6, 0, none⟩))), (3, .val (.pointer (some ⟨b3, 0, none⟩))), (1, .val (.int .i64 (m))), (2, .ro 1 (ints .i64 [n0, n1, n2, n3, n4]))], .box b6 [.val (.int .i64 (0)), .val (.int .u8 (0)), .val (.int .u8 (0)), .val (.int .u8 (0)), .val (.int .u32 0), .val (.int .i64 (0)), .val (.int .i64 (0)), .val (.bool false), .val (.slice none 0 0)] 34 :: .box b3 [.val (.int .i64 (p.fn)), .val (.int .u8 (p.pl)), .val (.int .u8 (p.fo)), .val (.int .u8 (p.ba)), .val (.int .u32 p.ft), .val (.int .i64 (p.x)), .val (.int .i64 (p.y)), .val (.bool p.cl), .ro 4 (p.clip.map RC.enc)] 34 :: h⟩) lee ?_
      (repeat' (first | (refine iS ?_; refine iMu ?_; refine S.mapU ?_) | refine svz ⟨fun b hq => ?_⟩ | refine sv1 ?_ | refine svs ⟨?_⟩ | refine svu ⟨fun u => ?_⟩ | (refine svg (fun hg => ?_) (fun hg => ?_) <;> try (exfalso; first | omega | contradiction)) | (refine svc (fun hc => ?_) (fun hc => ?_) <;> try (exfalso; first | omega | contradiction)) | refine sv2 ?_ | refine svh (fun hb => ?_) (fun hb => ?_) | refine svb (fun b => ?_) | refine sva ?_ | refine sv3 ?_))
      exact ⟨(), hI, lee⟩
  rintro ⟨⟩ hI
  rw [chg_ok (n := [n0, n1, n2, n3, n4]) hck hm rfl hI]
  (repeat' (first | (refine iS ?_; refine iMu ?_; refine S.mapU ?_) | refine svz ⟨fun b hq => ?_⟩ | refine sv1 ?_ | refine svs ⟨?_⟩ | refine svu ⟨fun u => ?_⟩ | (refine svg (fun hg => ?_) (fun hg => ?_) <;> try (exfalso; first | omega | contradiction)) | (refine svc (fun hc => ?_) (fun hc => ?_) <;> try (exfalso; first | omega | contradiction)) | refine sv2 ?_ | refine svh (fun hb => ?_) (fun hb => ?_) | refine svb (fun b => ?_)))
  revert b; intro b11
  refine W.mid (J := fun _ : Unit => ⟨113, [(11, .val (.pointer (some ⟨b11, 0, none⟩))), (6, .val (.pointer (some ⟨b6, 0, none⟩))), (3, .val (.pointer (some ⟨b3, 0, none⟩))), (1, .val (.int .i64 (m))), (2, .ro 1 (ints .i64 [n0, n1, n2, n3, n4]))], .box b11 (putC m [n0, n1, n2, n3, n4] p 1).cells 34 :: .box b6 [.val (.int .i64 (0)), .val (.int .u8 (0)), .val (.int .u8 (0)), .val (.int .u8 (0)), .val (.int .u32 0), .val (.int .i64 (0)), .val (.int .i64 (0)), .val (.bool false), .val (.slice none 0 0)] 34 :: .box b3 [.val (.int .i64 (p.fn)), .val (.int .u8 (p.pl)), .val (.int .u8 (p.fo)), .val (.int .u8 (p.ba)), .val (.int .u32 p.ft), .val (.int .i64 (p.x)), .val (.int .i64 (p.y)), .val (.bool p.cl), .ro 4 (p.clip.map RC.enc)] 34 :: h⟩) (Φ := fun _ => True) ?_ ?_
  · have hs : putC m [n0, n1, n2, n3, n4] p 1 = if bitM m 0 then setC 0 p n0 else p := rfl
    (repeat' (first | (refine iS ?_; refine iMu ?_; refine S.mapU ?_) | refine svz ⟨fun b hq => ?_⟩ | refine sv1 ?_ | refine svs ⟨?_⟩ | refine svu ⟨fun u => ?_⟩ | (refine svg (fun hg => ?_) (fun hg => ?_) <;> try (exfalso; first | omega | contradiction)) | (refine svc (fun hc => ?_) (fun hc => ?_) <;> try (exfalso; first | omega | contradiction)) | refine sv2 ?_ | refine svh (fun hb => ?_) (fun hb => ?_) | refine svb (fun b => ?_) | refine sva ?_ | refine sv3 ?_))
    · rw [bit_t b0 (by assumption), if_pos rfl] at hs
      rw [hs]
      exact ⟨(), trivial, lee⟩
    · rw [b0.1 (Decidable.of_not_not (by assumption)), if_neg (by decide)] at hs
      rw [hs]
      exact ⟨(), trivial, lee⟩
  rintro ⟨⟩ _
  have hs : putC m [n0, n1, n2, n3, n4] p 2 = if bitM m 1 then setC 1 (putC m [n0, n1, n2, n3, n4] p 1) n1 else putC m [n0, n1, n2, n3, n4] p 1 := rfl
  have hv := (okN_put m [n0, n1, n2, n3, n4] 1).1 (hI 1 (by omega))
  generalize putC m [n0, n1, n2, n3, n4] p 1 = q1 at *
  (repeat' (first | (refine iS ?_; refine iMu ?_; refine S.mapU ?_) | refine svz ⟨fun b hq => ?_⟩ | refine sv1 ?_ | refine svs ⟨?_⟩ | refine svu ⟨fun u => ?_⟩ | (refine svg (fun hg => ?_) (fun hg => ?_) <;> try (exfalso; first | omega | contradiction)) | (refine svc (fun hc => ?_) (fun hc => ?_) <;> try (exfalso; first | omega | contradiction)) | refine sv2 ?_ | refine svh (fun hb => ?_) (fun hb => ?_) | refine svb (fun b => ?_)))
  refine W.mid (J := fun _ : Unit => ⟨113, [(11, .val (.pointer (some ⟨b11, 0, none⟩))), (6, .val (.pointer (some ⟨b6, 0, none⟩))), (3, .val (.pointer (some ⟨b3, 0, none⟩))), (1, .val (.int .i64 (m))), (2, .ro 1 (ints .i64 [n0, n1, n2, n3, n4]))], .box b11 (putC m [n0, n1, n2, n3, n4] p 2).cells 34 :: .box b6 [.val (.int .i64 (0)), .val (.int .u8 (0)), .val (.int .u8 (0)), .val (.int .u8 (0)), .val (.int .u32 0), .val (.int .i64 (0)), .val (.int .i64 (0)), .val (.bool false), .val (.slice none 0 0)] 34 :: .box b3 [.val (.int .i64 (p.fn)), .val (.int .u8 (p.pl)), .val (.int .u8 (p.fo)), .val (.int .u8 (p.ba)), .val (.int .u32 p.ft), .val (.int .i64 (p.x)), .val (.int .i64 (p.y)), .val (.bool p.cl), .ro 4 (p.clip.map RC.enc)] 34 :: h⟩) (Φ := fun _ => True) ?_ ?_
  · refine W.le (s' := ⟨113, [(11, .val (.pointer (some ⟨b11, 0, none⟩))), (6, .val (.pointer (some ⟨b6, 0, none⟩))), (3, .val (.pointer (some ⟨b3, 0, none⟩))), (1, .val (.int .i64 (m))), (2, .ro 1 (ints .i64 [n0, n1, n2, n3, n4]))], .box b11 [.val (.int .i64 (q1.fn)), .val (.int .u8 (q1.pl)), .val (.int .u8 (q1.fo)), .val (.int .u8 (q1.ba)), .val (.int .u32 q1.ft), .val (.int .i64 (q1.x)), .val (.int .i64 (q1.y)), .val (.bool q1.cl), .ro 4 (q1.clip.map RC.enc)] 34 :: .box b6 [.val (.int .i64 (0)), .val (.int .u8 (0)), .val (.int .u8 (0)), .val (.int .u8 (0)), .val (.int .u32 0), .val (.int .i64 (0)), .val (.int .i64 (0)), .val (.bool false), .val (.slice none 0 0)] 34 :: .box b3 [.val (.int .i64 (p.fn)), .val (.int .u8 (p.pl)), .val (.int .u8 (p.fo)), .val (.int .u8 (p.ba)), .val (.int .u32 p.ft), .val (.int .i64 (p.x)), .val (.int .i64 (p.y)), .val (.bool p.cl), .ro 4 (p.clip.map RC.enc)] 34 :: h⟩) lee ?_
    by_cases hb : bitM m 1 = true
    · have hv2 : 0 ≤ n1 ∧ n1 ≤ 255 := of_decide_eq_true (hv hb)
      rw [hb, if_pos rfl] at hs
      rw [hs]
      have hne : bitsI .and .i64 (m : Int) 2 ≠ 0 := fun e => by rw [b1.1 e] at hb; cases hb
      clear hv
      (repeat' (first | (refine iS ?_; refine iMu ?_; refine S.mapU ?_) | refine svz ⟨fun b hq => ?_⟩ | refine sv1 ?_ | refine svs ⟨?_⟩ | refine svu ⟨fun u => ?_⟩ | (refine svg (fun hg => ?_) (fun hg => ?_) <;> try (exfalso; first | omega | contradiction)) | (refine svc (fun hc => ?_) (fun hc => ?_) <;> try (exfalso; first | omega | contradiction)) | refine sv2 ?_ | refine svh (fun hb => ?_) (fun hb => ?_) | refine svb (fun b => ?_) | refine sva ?_ | refine sv3 ?_))
      exact ⟨(), trivial, lee⟩
    · have hb : bitM m 1 = false := by simpa using hb
      rw [hb, if_neg (by decide)] at hs
      rw [hs]
      have hne : bitsI .and .i64 (m : Int) 2 = 0 := b1.2 hb
      clear hv
      (repeat' (first | (refine iS ?_; refine iMu ?_; refine S.mapU ?_) | refine svz ⟨fun b hq => ?_⟩ | refine sv1 ?_ | refine svs ⟨?_⟩ | refine svu ⟨fun u => ?_⟩ | (refine svg (fun hg => ?_) (fun hg => ?_) <;> try (exfalso; first | omega | contradiction)) | (refine svc (fun hc => ?_) (fun hc => ?_) <;> try (exfalso; first | omega | contradiction)) | refine sv2 ?_ | refine svh (fun hb => ?_) (fun hb => ?_) | refine svb (fun b => ?_) | refine sva ?_ | refine sv3 ?_))
      exact ⟨(), trivial, lee⟩
  rintro ⟨⟩ _
  clear hs hv
  have hs : putC m [n0, n1, n2, n3, n4] p 3 = if bitM m 2 then setC 2 (putC m [n0, n1, n2, n3, n4] p 2) n2 else putC m [n0, n1, n2, n3, n4] p 2 := rfl
  have hv := (okN_put m [n0, n1, n2, n3, n4] 2).1 (hI 2 (by omega))
  generalize putC m [n0, n1, n2, n3, n4] p 2 = q2 at *
  (repeat' (first | (refine iS ?_; refine iMu ?_; refine S.mapU ?_) | refine svz ⟨fun b hq => ?_⟩ | refine sv1 ?_ | refine svs ⟨?_⟩ | refine svu ⟨fun u => ?_⟩ | (refine svg (fun hg => ?_) (fun hg => ?_) <;> try (exfalso; first | omega | contradiction)) | (refine svc (fun hc => ?_) (fun hc => ?_) <;> try (exfalso; first | omega | contradiction)) | refine sv2 ?_ | refine svh (fun hb => ?_) (fun hb => ?_) | refine svb (fun b => ?_)))
  refine W.mid (J := fun _ : Unit => ⟨113, [(11, .val (.pointer (some ⟨b11, 0, none⟩))), (6, .val (.pointer (some ⟨b6, 0, none⟩))), (3, .val (.pointer (some ⟨b3, 0, none⟩))), (1, .val (.int .i64 (m))), (2, .ro 1 (ints .i64 [n0, n1, n2, n3, n4]))], .box b11 (putC m [n0, n1, n2, n3, n4] p 3).cells 34 :: .box b6 [.val (.int .i64 (0)), .val (.int .u8 (0)), .val (.int .u8 (0)), .val (.int .u8 (0)), .val (.int .u32 0), .val (.int .i64 (0)), .val (.int .i64 (0)), .val (.bool false), .val (.slice none 0 0)] 34 :: .box b3 [.val (.int .i64 (p.fn)), .val (.int .u8 (p.pl)), .val (.int .u8 (p.fo)), .val (.int .u8 (p.ba)), .val (.int .u32 p.ft), .val (.int .i64 (p.x)), .val (.int .i64 (p.y)), .val (.bool p.cl), .ro 4 (p.clip.map RC.enc)] 34 :: h⟩) (Φ := fun _ => True) ?_ ?_
  · refine W.le (s' := ⟨113, [(11, .val (.pointer (some ⟨b11, 0, none⟩))), (6, .val (.pointer (some ⟨b6, 0, none⟩))), (3, .val (.pointer (some ⟨b3, 0, none⟩))), (1, .val (.int .i64 (m))), (2, .ro 1 (ints .i64 [n0, n1, n2, n3, n4]))], .box b11 [.val (.int .i64 (q2.fn)), .val (.int .u8 (q2.pl)), .val (.int .u8 (q2.fo)), .val (.int .u8 (q2.ba)), .val (.int .u32 q2.ft), .val (.int .i64 (q2.x)), .val (.int .i64 (q2.y)), .val (.bool q2.cl), .ro 4 (q2.clip.map RC.enc)] 34 :: .box b6 [.val (.int .i64 (0)), .val (.int .u8 (0)), .val (.int .u8 (0)), .val (.int .u8 (0)), .val (.int .u32 0), .val (.int .i64 (0)), .val (.int .i64 (0)), .val (.bool false), .val (.slice none 0 0)] 34 :: .box b3 [.val (.int .i64 (p.fn)), .val (.int .u8 (p.pl)), .val (.int .u8 (p.fo)), .val (.int .u8 (p.ba)), .val (.int .u32 p.ft), .val (.int .i64 (p.x)), .val (.int .i64 (p.y)), .val (.bool p.cl), .ro 4 (p.clip.map RC.enc)] 34 :: h⟩) lee ?_
    by_cases hb : bitM m 2 = true
    · have hv2 : 0 ≤ n2 ∧ n2 ≤ 255 := of_decide_eq_true (hv hb)
      rw [hb, if_pos rfl] at hs
      rw [hs]
      have hne : bitsI .and .i64 (m : Int) 4 ≠ 0 := fun e => by rw [b2.1 e] at hb; cases hb
      clear hv
      (repeat' (first | (refine iS ?_; refine iMu ?_; refine S.mapU ?_) | refine svz ⟨fun b hq => ?_⟩ | refine sv1 ?_ | refine svs ⟨?_⟩ | refine svu ⟨fun u => ?_⟩ | (refine svg (fun hg => ?_) (fun hg => ?_) <;> try (exfalso; first | omega | contradiction)) | (refine svc (fun hc => ?_) (fun hc => ?_) <;> try (exfalso; first | omega | contradiction)) | refine sv2 ?_ | refine svh (fun hb => ?_) (fun hb => ?_) | refine svb (fun b => ?_) | refine sva ?_ | refine sv3 ?_))
      exact ⟨(), trivial, lee⟩
    · have hb : bitM m 2 = false := by simpa using hb
      rw [hb, if_neg (by decide)] at hs
      rw [hs]
      have hne : bitsI .and .i64 (m : Int) 4 = 0 := b2.2 hb
      clear hv
      (repeat' (first | (refine iS ?_; refine iMu ?_; refine S.mapU ?_) | refine svz ⟨fun b hq => ?_⟩ | refine sv1 ?_ | refine svs ⟨?_⟩ | refine svu ⟨fun u => ?_⟩ | (refine svg (fun hg => ?_) (fun hg => ?_) <;> try (exfalso; first | omega | contradiction)) | (refine svc (fun hc => ?_) (fun hc => ?_) <;> try (exfalso; first | omega | contradiction)) | refine sv2 ?_ | refine svh (fun hb => ?_) (fun hb => ?_) | refine svb (fun b => ?_) | refine sva ?_ | refine sv3 ?_))
      exact ⟨(), trivial, lee⟩
  rintro ⟨⟩ _
  clear hs hv
  have hs : putC m [n0, n1, n2, n3, n4] p 4 = if bitM m 3 then setC 3 (putC m [n0, n1, n2, n3, n4] p 3) n3 else putC m [n0, n1, n2, n3, n4] p 3 := rfl
  have hv := (okN_put m [n0, n1, n2, n3, n4] 3).1 (hI 3 (by omega))
  generalize putC m [n0, n1, n2, n3, n4] p 3 = q3 at *
  (repeat' (first | (refine iS ?_; refine iMu ?_; refine S.mapU ?_) | refine svz ⟨fun b hq => ?_⟩ | refine sv1 ?_ | refine svs ⟨?_⟩ | refine svu ⟨fun u => ?_⟩ | (refine svg (fun hg => ?_) (fun hg => ?_) <;> try (exfalso; first | omega | contradiction)) | (refine svc (fun hc => ?_) (fun hc => ?_) <;> try (exfalso; first | omega | contradiction)) | refine sv2 ?_ | refine svh (fun hb => ?_) (fun hb => ?_) | refine svb (fun b => ?_)))
  refine W.mid (J := fun _ : Unit => ⟨113, [(11, .val (.pointer (some ⟨b11, 0, none⟩))), (6, .val (.pointer (some ⟨b6, 0, none⟩))), (3, .val (.pointer (some ⟨b3, 0, none⟩))), (1, .val (.int .i64 (m))), (2, .ro 1 (ints .i64 [n0, n1, n2, n3, n4]))], .box b11 (putC m [n0, n1, n2, n3, n4] p 4).cells 34 :: .box b6 [.val (.int .i64 (0)), .val (.int .u8 (0)), .val (.int .u8 (0)), .val (.int .u8 (0)), .val (.int .u32 0), .val (.int .i64 (0)), .val (.int .i64 (0)), .val (.bool false), .val (.slice none 0 0)] 34 :: .box b3 [.val (.int .i64 (p.fn)), .val (.int .u8 (p.pl)), .val (.int .u8 (p.fo)), .val (.int .u8 (p.ba)), .val (.int .u32 p.ft), .val (.int .i64 (p.x)), .val (.int .i64 (p.y)), .val (.bool p.cl), .ro 4 (p.clip.map RC.enc)] 34 :: h⟩) (Φ := fun _ => True) ?_ ?_
  · refine W.le (s' := ⟨113, [(11, .val (.pointer (some ⟨b11, 0, none⟩))), (6, .val (.pointer (some ⟨b6, 0, none⟩))), (3, .val (.pointer (some ⟨b3, 0, none⟩))), (1, .val (.int .i64 (m))), (2, .ro 1 (ints .i64 [n0, n1, n2, n3, n4]))], .box b11 [.val (.int .i64 (q3.fn)), .val (.int .u8 (q3.pl)), .val (.int .u8 (q3.fo)), .val (.int .u8 (q3.ba)), .val (.int .u32 q3.ft), .val (.int .i64 (q3.x)), .val (.int .i64 (q3.y)), .val (.bool q3.cl), .ro 4 (q3.clip.map RC.enc)] 34 :: .box b6 [.val (.int .i64 (0)), .val (.int .u8 (0)), .val (.int .u8 (0)), .val (.int .u8 (0)), .val (.int .u32 0), .val (.int .i64 (0)), .val (.int .i64 (0)), .val (.bool false), .val (.slice none 0 0)] 34 :: .box b3 [.val (.int .i64 (p.fn)), .val (.int .u8 (p.pl)), .val (.int .u8 (p.fo)), .val (.int .u8 (p.ba)), .val (.int .u32 p.ft), .val (.int .i64 (p.x)), .val (.int .i64 (p.y)), .val (.bool p.cl), .ro 4 (p.clip.map RC.enc)] 34 :: h⟩) lee ?_
    by_cases hb : bitM m 3 = true
    · have hv2 : 0 ≤ n3 ∧ n3 ≤ 255 := of_decide_eq_true (hv hb)
      rw [hb, if_pos rfl] at hs
      rw [hs]
      have hne : bitsI .and .i64 (m : Int) 8 ≠ 0 := fun e => by rw [b3'.1 e] at hb; cases hb
      clear hv
      (repeat' (first | (refine iS ?_; refine iMu ?_; refine S.mapU ?_) | refine svz ⟨fun b hq => ?_⟩ | refine sv1 ?_ | refine svs ⟨?_⟩ | refine svu ⟨fun u => ?_⟩ | (refine svg (fun hg => ?_) (fun hg => ?_) <;> try (exfalso; first | omega | contradiction)) | (refine svc (fun hc => ?_) (fun hc => ?_) <;> try (exfalso; first | omega | contradiction)) | refine sv2 ?_ | refine svh (fun hb => ?_) (fun hb => ?_) | refine svb (fun b => ?_) | refine sva ?_ | refine sv3 ?_))
      exact ⟨(), trivial, lee⟩
    · have hb : bitM m 3 = false := by simpa using hb
      rw [hb, if_neg (by decide)] at hs
      rw [hs]
      have hne : bitsI .and .i64 (m : Int) 8 = 0 := b3'.2 hb
      clear hv
      (repeat' (first | (refine iS ?_; refine iMu ?_; refine S.mapU ?_) | refine svz ⟨fun b hq => ?_⟩ | refine sv1 ?_ | refine svs ⟨?_⟩ | refine svu ⟨fun u => ?_⟩ | (refine svg (fun hg => ?_) (fun hg => ?_) <;> try (exfalso; first | omega | contradiction)) | (refine svc (fun hc => ?_) (fun hc => ?_) <;> try (exfalso; first | omega | contradiction)) | refine sv2 ?_ | refine svh (fun hb => ?_) (fun hb => ?_) | refine svb (fun b => ?_) | refine sva ?_ | refine sv3 ?_))
      exact ⟨(), trivial, lee⟩
  rintro ⟨⟩ _
  clear hs hv
  have hs : putC m [n0, n1, n2, n3, n4] p 5 = if bitM m 4 then setC 4 (putC m [n0, n1, n2, n3, n4] p 4) n4 else putC m [n0, n1, n2, n3, n4] p 4 := rfl
  have hv := (okN_put m [n0, n1, n2, n3, n4] 4).1 (hI 4 (by omega))
  generalize putC m [n0, n1, n2, n3, n4] p 4 = q4 at *
  (repeat' (first | (refine iS ?_; refine iMu ?_; refine S.mapU ?_) | refine svz ⟨fun b hq => ?_⟩ | refine sv1 ?_ | refine svs ⟨?_⟩ | refine svu ⟨fun u => ?_⟩ | (refine svg (fun hg => ?_) (fun hg => ?_) <;> try (exfalso; first | omega | contradiction)) | (refine svc (fun hc => ?_) (fun hc => ?_) <;> try (exfalso; first | omega | contradiction)) | refine sv2 ?_ | refine svh (fun hb => ?_) (fun hb => ?_) | refine svb (fun b => ?_)))
  refine W.mid (J := fun _ : Unit => ⟨113, [(11, .val (.pointer (some ⟨b11, 0, none⟩))), (6, .val (.pointer (some ⟨b6, 0, none⟩))), (3, .val (.pointer (some ⟨b3, 0, none⟩))), (1, .val (.int .i64 (m))), (2, .ro 1 (ints .i64 [n0, n1, n2, n3, n4]))], .box b11 (putC m [n0, n1, n2, n3, n4] p 5).cells 34 :: .box b6 [.val (.int .i64 (0)), .val (.int .u8 (0)), .val (.int .u8 (0)), .val (.int .u8 (0)), .val (.int .u32 0), .val (.int .i64 (0)), .val (.int .i64 (0)), .val (.bool false), .val (.slice none 0 0)] 34 :: .box b3 [.val (.int .i64 (p.fn)), .val (.int .u8 (p.pl)), .val (.int .u8 (p.fo)), .val (.int .u8 (p.ba)), .val (.int .u32 p.ft), .val (.int .i64 (p.x)), .val (.int .i64 (p.y)), .val (.bool p.cl), .ro 4 (p.clip.map RC.enc)] 34 :: h⟩) (Φ := fun _ => True) ?_ ?_
  · refine W.le (s' := ⟨113, [(11, .val (.pointer (some ⟨b11, 0, none⟩))), (6, .val (.pointer (some ⟨b6, 0, none⟩))), (3, .val (.pointer (some ⟨b3, 0, none⟩))), (1, .val (.int .i64 (m))), (2, .ro 1 (ints .i64 [n0, n1, n2, n3, n4]))], .box b11 [.val (.int .i64 (q4.fn)), .val (.int .u8 (q4.pl)), .val (.int .u8 (q4.fo)), .val (.int .u8 (q4.ba)), .val (.int .u32 q4.ft), .val (.int .i64 (q4.x)), .val (.int .i64 (q4.y)), .val (.bool q4.cl), .ro 4 (q4.clip.map RC.enc)] 34 :: .box b6 [.val (.int .i64 (0)), .val (.int .u8 (0)), .val (.int .u8 (0)), .val (.int .u8 (0)), .val (.int .u32 0), .val (.int .i64 (0)), .val (.int .i64 (0)), .val (.bool false), .val (.slice none 0 0)] 34 :: .box b3 [.val (.int .i64 (p.fn)), .val (.int .u8 (p.pl)), .val (.int .u8 (p.fo)), .val (.int .u8 (p.ba)), .val (.int .u32 p.ft), .val (.int .i64 (p.x)), .val (.int .i64 (p.y)), .val (.bool p.cl), .ro 4 (p.clip.map RC.enc)] 34 :: h⟩) lee ?_
    by_cases hb : bitM m 4 = true
    · have hv2 : 0 ≤ n4 ∧ n4 ≤ 4294967295 := of_decide_eq_true (hv hb)
      rw [hb, if_pos rfl] at hs
      rw [hs]
      have hne : bitsI .and .i64 (m : Int) 16 ≠ 0 := fun e => by rw [b4.1 e] at hb; cases hb
      clear hv
      (repeat' (first | (refine iS ?_; refine iMu ?_; refine S.mapU ?_) | refine svz ⟨fun b hq => ?_⟩ | refine sv1 ?_ | refine svs ⟨?_⟩ | refine svu ⟨fun u => ?_⟩ | (refine svg (fun hg => ?_) (fun hg => ?_) <;> try (exfalso; first | omega | contradiction)) | (refine svc (fun hc => ?_) (fun hc => ?_) <;> try (exfalso; first | omega | contradiction)) | refine sv2 ?_ | refine svh (fun hb => ?_) (fun hb => ?_) | refine svb (fun b => ?_) | refine sva ?_ | refine sv3 ?_))
      exact ⟨(), trivial, lee⟩
    · have hb : bitM m 4 = false := by simpa using hb
      rw [hb, if_neg (by decide)] at hs
      rw [hs]
      have hne : bitsI .and .i64 (m : Int) 16 = 0 := b4.2 hb
      clear hv
      (repeat' (first | (refine iS ?_; refine iMu ?_; refine S.mapU ?_) | refine svz ⟨fun b hq => ?_⟩ | refine sv1 ?_ | refine svs ⟨?_⟩ | refine svu ⟨fun u => ?_⟩ | (refine svg (fun hg => ?_) (fun hg => ?_) <;> try (exfalso; first | omega | contradiction)) | (refine svc (fun hc => ?_) (fun hc => ?_) <;> try (exfalso; first | omega | contradiction)) | refine sv2 ?_ | refine svh (fun hb => ?_) (fun hb => ?_) | refine svb (fun b => ?_) | refine sva ?_ | refine sv3 ?_))
      exact ⟨(), trivial, lee⟩
  rintro ⟨⟩ _
  clear hs hv
  generalize putC m [n0, n1, n2, n3, n4] p 5 = q5 at *
  refine W.le (s' := ⟨113, [(11, .val (.pointer (some ⟨b11, 0, none⟩))), (6, .val (.pointer (some ⟨b6, 0, none⟩))), (3, .val (.pointer (some ⟨b3, 0, none⟩))), (1, .val (.int .i64 (m))), (2, .ro 1 (ints .i64 [n0, n1, n2, n3, n4]))], .box b11 [.val (.int .i64 (q5.fn)), .val (.int .u8 (q5.pl)), .val (.int .u8 (q5.fo)), .val (.int .u8 (q5.ba)), .val (.int .u32 q5.ft), .val (.int .i64 (q5.x)), .val (.int .i64 (q5.y)), .val (.bool q5.cl), .ro 4 (q5.clip.map RC.enc)] 34 :: .box b6 [.val (.int .i64 (0)), .val (.int .u8 (0)), .val (.int .u8 (0)), .val (.int .u8 (0)), .val (.int .u32 0), .val (.int .i64 (0)), .val (.int .i64 (0)), .val (.bool false), .val (.slice none 0 0)] 34 :: .box b3 [.val (.int .i64 (p.fn)), .val (.int .u8 (p.pl)), .val (.int .u8 (p.fo)), .val (.int .u8 (p.ba)), .val (.int .u32 p.ft), .val (.int .i64 (p.x)), .val (.int .i64 (p.y)), .val (.bool p.cl), .ro 4 (p.clip.map RC.enc)] 34 :: h⟩) lee ?_
  (repeat' (first | (refine iS ?_; refine iMu ?_; refine S.mapU ?_) | refine svz ⟨fun b hq => ?_⟩ | refine sv1 ?_ | refine svs ⟨?_⟩ | refine svu ⟨fun u => ?_⟩ | (refine svg (fun hg => ?_) (fun hg => ?_) <;> try (exfalso; first | omega | contradiction)) | (refine svc (fun hc => ?_) (fun hc => ?_) <;> try (exfalso; first | omega | contradiction)) | refine sv2 ?_ | refine svh (fun hb => ?_) (fun hb => ?_) | refine svb (fun b => ?_) | refine sva ?_ | refine sv3 ?_))
  exact fin_r (h' := h) ⟨rfl, rfl⟩
end Go.Proofs.Ytmfbfbhkjclhkaa
