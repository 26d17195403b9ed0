/- The reference's SetClip. No condition. -/
import Derived.Test.YtmfbfbhkjclhkaaN13
import Derived.Test.YtmfbfbhkjclhkaaN5
namespace Go.Proofs.Ytmfbfbhkjclhkaa
open Go Go.VM
attribute [local irreducible] PurV Pur Step RL W D ACalls Then InBlock Fini
set_option linter.unusedVariables false
set_option linter.unusedSimpArgs false
set_option maxHeartbeats 20000000
set_option maxRecDepth 100000 in
theorem rset_e (p : PN) (x y : Int) (cl : Bool) (l : List Int) (h : Heap) (hl : p.clip.length ≤ 300) (hL : l.length ≤ 1100) (hq : ¬ (chkF p = 0 ∧ (placeP x ∧ placeP y) ∧ ¬ ((cl = false ∧ 0 < l.length) ∨ l.length % 4 ≠ 0) ∧ l.length ≤ 1024)) :
    ACalls Try.prog 17 [p.enc, .val (.int .i64 (x)), .val (.int .i64 (y)), .val (.bool cl), .ro 1 (ints .i64 l)] h (fun r h' => r = .tup [(setF p x y cl l).1.enc, .val (.int .i64 ((setF p x y cl l).2))] ∧ h' = h) := by
  have ck := fun h => rchk_c p h hl
  have cx := fun h => place_c x h
  have cy := fun h => place_c y h
  by_cases h0 : chkF p ≠ 0
  · rw [show setF p x y cl l = (p, chkF p) by unfold setF; rw [if_pos h0]]
    clear hq cx cy
    generalize chkF p = c at *
    simp only [pn_enc] at *
    refine ACalls.intro Try.func17 rfl Try.ntmps17 Try.results17 (Nat.le_of_ble_eq_true rfl) ?_
    (repeat' (first | (refine iS ?_; refine iMu ?_; refine S.mapU ?_) | refine svz ⟨fun b hq => ?_⟩ | refine sv1 ?_ | refine svs ⟨?_⟩ | refine svu ⟨fun u => ?_⟩ | (refine svg (fun hg => ?_) (fun hg => ?_) <;> try (exfalso; first | omega | contradiction)) | (refine svc (fun hc => ?_) (fun hc => ?_) <;> try (exfalso; first | omega | contradiction)) | refine sv2 ?_ | refine svh (fun hb => ?_) (fun hb => ?_) | refine svb (fun b => ?_) | refine sva ?_ | refine sv3 ?_))
    refine S.call ?_; refine (ck _).mono ?_; rintro r h' ⟨rfl, hh⟩; subst hh
    (repeat' (first | (refine iS ?_; refine iMu ?_; refine S.mapU ?_) | refine svz ⟨fun b hq => ?_⟩ | refine sv1 ?_ | refine svs ⟨?_⟩ | refine svu ⟨fun u => ?_⟩ | (refine svg (fun hg => ?_) (fun hg => ?_) <;> try (exfalso; first | omega | contradiction)) | (refine svc (fun hc => ?_) (fun hc => ?_) <;> try (exfalso; first | omega | contradiction)) | refine sv2 ?_ | refine svh (fun hb => ?_) (fun hb => ?_) | refine svb (fun b => ?_) | refine sva ?_ | refine sv3 ?_))
    exact fin_r (h' := h) ⟨rfl, rfl⟩
  have h0' : chkF p = 0 := by omega
  rw [h0'] at ck
  by_cases hp : ¬ (placeP x ∧ placeP y)
  · rw [show setF p x y cl l = (p, 1) by unfold setF; rw [if_neg h0, if_pos hp]]
    clear hq h0 h0'
    simp only [pn_enc] at *
    by_cases hx : placeP x
    · have hy : ¬ placeP y := fun q => hp ⟨hx, q⟩
      rw [decide_eq_true hx] at cx
      rw [decide_eq_false hy] at cy
      refine ACalls.intro Try.func17 rfl Try.ntmps17 Try.results17 (Nat.le_of_ble_eq_true rfl) ?_
      (repeat' (first | (refine iS ?_; refine iMu ?_; refine S.mapU ?_) | refine svz ⟨fun b hq => ?_⟩ | refine sv1 ?_ | refine svs ⟨?_⟩ | refine svu ⟨fun u => ?_⟩ | (refine svg (fun hg => ?_) (fun hg => ?_) <;> try (exfalso; first | omega | contradiction)) | (refine svc (fun hc => ?_) (fun hc => ?_) <;> try (exfalso; first | omega | contradiction)) | refine sv2 ?_ | refine svh (fun hb => ?_) (fun hb => ?_) | refine svb (fun b => ?_) | refine sva ?_ | refine sv3 ?_))
      refine S.call ?_; refine (ck _).mono ?_; rintro r h' ⟨rfl, hh⟩; subst hh
      (repeat' (first | (refine iS ?_; refine iMu ?_; refine S.mapU ?_) | refine svz ⟨fun b hq => ?_⟩ | refine sv1 ?_ | refine svs ⟨?_⟩ | refine svu ⟨fun u => ?_⟩ | (refine svg (fun hg => ?_) (fun hg => ?_) <;> try (exfalso; first | omega | contradiction)) | (refine svc (fun hc => ?_) (fun hc => ?_) <;> try (exfalso; first | omega | contradiction)) | refine sv2 ?_ | refine svh (fun hb => ?_) (fun hb => ?_) | refine svb (fun b => ?_) | refine sva ?_ | refine sv3 ?_))
      refine S.call ?_; refine (cx _).mono ?_; rintro r h' ⟨rfl, hh⟩; subst hh
      (repeat' (first | (refine iS ?_; refine iMu ?_; refine S.mapU ?_) | refine svz ⟨fun b hq => ?_⟩ | refine sv1 ?_ | refine svs ⟨?_⟩ | refine svu ⟨fun u => ?_⟩ | (refine svg (fun hg => ?_) (fun hg => ?_) <;> try (exfalso; first | omega | contradiction)) | (refine svc (fun hc => ?_) (fun hc => ?_) <;> try (exfalso; first | omega | contradiction)) | refine sv2 ?_ | refine svh (fun hb => ?_) (fun hb => ?_) | refine svb (fun b => ?_) | refine sva ?_ | refine sv3 ?_))
      refine S.call ?_; refine (cy _).mono ?_; rintro r h' ⟨rfl, hh⟩; subst hh
      (repeat' (first | (refine iS ?_; refine iMu ?_; refine S.mapU ?_) | refine svz ⟨fun b hq => ?_⟩ | refine sv1 ?_ | refine svs ⟨?_⟩ | refine svu ⟨fun u => ?_⟩ | (refine svg (fun hg => ?_) (fun hg => ?_) <;> try (exfalso; first | omega | contradiction)) | (refine svc (fun hc => ?_) (fun hc => ?_) <;> try (exfalso; first | omega | contradiction)) | refine sv2 ?_ | refine svh (fun hb => ?_) (fun hb => ?_) | refine svb (fun b => ?_) | refine sva ?_ | refine sv3 ?_))
      exact fin_r (h' := h) ⟨rfl, rfl⟩
    · rw [decide_eq_false hx] at cx
      refine ACalls.intro Try.func17 rfl Try.ntmps17 Try.results17 (Nat.le_of_ble_eq_true rfl) ?_
      (repeat' (first | (refine iS ?_; refine iMu ?_; refine S.mapU ?_) | refine svz ⟨fun b hq => ?_⟩ | refine sv1 ?_ | refine svs ⟨?_⟩ | refine svu ⟨fun u => ?_⟩ | (refine svg (fun hg => ?_) (fun hg => ?_) <;> try (exfalso; first | omega | contradiction)) | (refine svc (fun hc => ?_) (fun hc => ?_) <;> try (exfalso; first | omega | contradiction)) | refine sv2 ?_ | refine svh (fun hb => ?_) (fun hb => ?_) | refine svb (fun b => ?_) | refine sva ?_ | refine sv3 ?_))
      refine S.call ?_; refine (ck _).mono ?_; rintro r h' ⟨rfl, hh⟩; subst hh
      (repeat' (first | (refine iS ?_; refine iMu ?_; refine S.mapU ?_) | refine svz ⟨fun b hq => ?_⟩ | refine sv1 ?_ | refine svs ⟨?_⟩ | refine svu ⟨fun u => ?_⟩ | (refine svg (fun hg => ?_) (fun hg => ?_) <;> try (exfalso; first | omega | contradiction)) | (refine svc (fun hc => ?_) (fun hc => ?_) <;> try (exfalso; first | omega | contradiction)) | refine sv2 ?_ | refine svh (fun hb => ?_) (fun hb => ?_) | refine svb (fun b => ?_) | refine sva ?_ | refine sv3 ?_))
      refine S.call ?_; refine (cx _).mono ?_; rintro r h' ⟨rfl, hh⟩; subst hh
      (repeat' (first | (refine iS ?_; refine iMu ?_; refine S.mapU ?_) | refine svz ⟨fun b hq => ?_⟩ | refine sv1 ?_ | refine svs ⟨?_⟩ | refine svu ⟨fun u => ?_⟩ | (refine svg (fun hg => ?_) (fun hg => ?_) <;> try (exfalso; first | omega | contradiction)) | (refine svc (fun hc => ?_) (fun hc => ?_) <;> try (exfalso; first | omega | contradiction)) | refine sv2 ?_ | refine svh (fun hb => ?_) (fun hb => ?_) | refine svb (fun b => ?_) | refine sva ?_ | refine sv3 ?_))
      exact fin_r (h' := h) ⟨rfl, rfl⟩
  have hp' : placeP x ∧ placeP y := Decidable.of_not_not hp
  rw [decide_eq_true hp'.1] at cx
  rw [decide_eq_true hp'.2] at cy
  by_cases hm : (cl = false ∧ 0 < l.length) ∨ l.length % 4 ≠ 0
  · rw [show setF p x y cl l = (p, 14) by unfold setF; rw [if_neg h0, if_neg hp, if_pos hm]]
    clear hq h0 h0' hp hp'
    simp only [pn_enc] at *
    cases cl with
    | false =>
      by_cases hz : 0 < l.length
      · clear hm
        refine ACalls.intro Try.func17 rfl Try.ntmps17 Try.results17 (Nat.le_of_ble_eq_true rfl) ?_; (repeat' (first | (refine iS ?_; refine iMu ?_; refine S.mapU ?_) | refine svz ⟨fun b hq => ?_⟩ | refine sv1 ?_ | refine svs ⟨?_⟩ | refine svu ⟨fun u => ?_⟩ | (refine svg (fun hg => ?_) (fun hg => ?_) <;> try (exfalso; first | omega | contradiction)) | (refine svc (fun hc => ?_) (fun hc => ?_) <;> try (exfalso; first | omega | contradiction)) | refine sv2 ?_ | refine svh (fun hb => ?_) (fun hb => ?_) | refine svb (fun b => ?_) | refine sva ?_ | refine sv3 ?_)); refine S.call ?_; refine (ck _).mono ?_; rintro r h' ⟨rfl, hh⟩; subst hh; (repeat' (first | (refine iS ?_; refine iMu ?_; refine S.mapU ?_) | refine svz ⟨fun b hq => ?_⟩ | refine sv1 ?_ | refine svs ⟨?_⟩ | refine svu ⟨fun u => ?_⟩ | (refine svg (fun hg => ?_) (fun hg => ?_) <;> try (exfalso; first | omega | contradiction)) | (refine svc (fun hc => ?_) (fun hc => ?_) <;> try (exfalso; first | omega | contradiction)) | refine sv2 ?_ | refine svh (fun hb => ?_) (fun hb => ?_) | refine svb (fun b => ?_) | refine sva ?_ | refine sv3 ?_)); refine S.call ?_; refine (cx _).mono ?_; rintro r h' ⟨rfl, hh⟩; subst hh; (repeat' (first | (refine iS ?_; refine iMu ?_; refine S.mapU ?_) | refine svz ⟨fun b hq => ?_⟩ | refine sv1 ?_ | refine svs ⟨?_⟩ | refine svu ⟨fun u => ?_⟩ | (refine svg (fun hg => ?_) (fun hg => ?_) <;> try (exfalso; first | omega | contradiction)) | (refine svc (fun hc => ?_) (fun hc => ?_) <;> try (exfalso; first | omega | contradiction)) | refine sv2 ?_ | refine svh (fun hb => ?_) (fun hb => ?_) | refine svb (fun b => ?_) | refine sva ?_ | refine sv3 ?_)); refine S.call ?_; refine (cy _).mono ?_; rintro r h' ⟨rfl, hh⟩; subst hh; (repeat' (first | (refine iS ?_; refine iMu ?_; refine S.mapU ?_) | refine svz ⟨fun b hq => ?_⟩ | refine sv1 ?_ | refine svs ⟨?_⟩ | refine svu ⟨fun u => ?_⟩ | (refine svg (fun hg => ?_) (fun hg => ?_) <;> try (exfalso; first | omega | contradiction)) | (refine svc (fun hc => ?_) (fun hc => ?_) <;> try (exfalso; first | omega | contradiction)) | refine sv2 ?_ | refine svh (fun hb => ?_) (fun hb => ?_) | refine svb (fun b => ?_) | refine sva ?_ | refine sv3 ?_))
        exact fin_r (h' := h) ⟨rfl, rfl⟩
      · have : l = [] := List.length_eq_zero_iff.1 (by omega)
        subst this
        simp at hm
    | true =>
      have hm : l.length % 4 ≠ 0 := by rcases hm with ⟨q, _⟩ | q; cases q; exact q
      refine ACalls.intro Try.func17 rfl Try.ntmps17 Try.results17 (Nat.le_of_ble_eq_true rfl) ?_; (repeat' (first | (refine iS ?_; refine iMu ?_; refine S.mapU ?_) | refine svz ⟨fun b hq => ?_⟩ | refine sv1 ?_ | refine svs ⟨?_⟩ | refine svu ⟨fun u => ?_⟩ | (refine svg (fun hg => ?_) (fun hg => ?_) <;> try (exfalso; first | omega | contradiction)) | (refine svc (fun hc => ?_) (fun hc => ?_) <;> try (exfalso; first | omega | contradiction)) | refine sv2 ?_ | refine svh (fun hb => ?_) (fun hb => ?_) | refine svb (fun b => ?_) | refine sva ?_ | refine sv3 ?_)); refine S.call ?_; refine (ck _).mono ?_; rintro r h' ⟨rfl, hh⟩; subst hh; (repeat' (first | (refine iS ?_; refine iMu ?_; refine S.mapU ?_) | refine svz ⟨fun b hq => ?_⟩ | refine sv1 ?_ | refine svs ⟨?_⟩ | refine svu ⟨fun u => ?_⟩ | (refine svg (fun hg => ?_) (fun hg => ?_) <;> try (exfalso; first | omega | contradiction)) | (refine svc (fun hc => ?_) (fun hc => ?_) <;> try (exfalso; first | omega | contradiction)) | refine sv2 ?_ | refine svh (fun hb => ?_) (fun hb => ?_) | refine svb (fun b => ?_) | refine sva ?_ | refine sv3 ?_)); refine S.call ?_; refine (cx _).mono ?_; rintro r h' ⟨rfl, hh⟩; subst hh; (repeat' (first | (refine iS ?_; refine iMu ?_; refine S.mapU ?_) | refine svz ⟨fun b hq => ?_⟩ | refine sv1 ?_ | refine svs ⟨?_⟩ | refine svu ⟨fun u => ?_⟩ | (refine svg (fun hg => ?_) (fun hg => ?_) <;> try (exfalso; first | omega | contradiction)) | (refine svc (fun hc => ?_) (fun hc => ?_) <;> try (exfalso; first | omega | contradiction)) | refine sv2 ?_ | refine svh (fun hb => ?_) (fun hb => ?_) | refine svb (fun b => ?_) | refine sva ?_ | refine sv3 ?_)); refine S.call ?_; refine (cy _).mono ?_; rintro r h' ⟨rfl, hh⟩; subst hh; (repeat' (first | (refine iS ?_; refine iMu ?_; refine S.mapU ?_) | refine svz ⟨fun b hq => ?_⟩ | refine sv1 ?_ | refine svs ⟨?_⟩ | refine svu ⟨fun u => ?_⟩ | (refine svg (fun hg => ?_) (fun hg => ?_) <;> try (exfalso; first | omega | contradiction)) | (refine svc (fun hc => ?_) (fun hc => ?_) <;> try (exfalso; first | omega | contradiction)) | refine sv2 ?_ | refine svh (fun hb => ?_) (fun hb => ?_) | refine svb (fun b => ?_) | refine sva ?_ | refine sv3 ?_))
      exact fin_r (h' := h) ⟨rfl, rfl⟩
  have h5 : 1024 < l.length := by
    rcases Nat.lt_or_ge 1024 l.length with g | g
    · exact g
    · exact absurd ⟨h0', hp', hm, g⟩ hq
  rw [show setF p x y cl l = (p, 5) by unfold setF; rw [if_neg h0, if_neg hp, if_neg hm, if_pos h5]]
  have hcl : cl = true := by cases cl with
    | true => rfl
    | false => exact absurd (.inl ⟨rfl, by omega⟩) hm
  subst hcl
  have hm : l.length % 4 = 0 := by omega
  clear hq h0 h0' hp hp'
  simp only [pn_enc] at *
  refine ACalls.intro Try.func17 rfl Try.ntmps17 Try.results17 (Nat.le_of_ble_eq_true rfl) ?_; (repeat' (first | (refine iS ?_; refine iMu ?_; refine S.mapU ?_) | refine svz ⟨fun b hq => ?_⟩ | refine sv1 ?_ | refine svs ⟨?_⟩ | refine svu ⟨fun u => ?_⟩ | (refine svg (fun hg => ?_) (fun hg => ?_) <;> try (exfalso; first | omega | contradiction)) | (refine svc (fun hc => ?_) (fun hc => ?_) <;> try (exfalso; first | omega | contradiction)) | refine sv2 ?_ | refine svh (fun hb => ?_) (fun hb => ?_) | refine svb (fun b => ?_) | refine sva ?_ | refine sv3 ?_)); refine S.call ?_; refine (ck _).mono ?_; rintro r h' ⟨rfl, hh⟩; subst hh; (repeat' (first | (refine iS ?_; refine iMu ?_; refine S.mapU ?_) | refine svz ⟨fun b hq => ?_⟩ | refine sv1 ?_ | refine svs ⟨?_⟩ | refine svu ⟨fun u => ?_⟩ | (refine svg (fun hg => ?_) (fun hg => ?_) <;> try (exfalso; first | omega | contradiction)) | (refine svc (fun hc => ?_) (fun hc => ?_) <;> try (exfalso; first | omega | contradiction)) | refine sv2 ?_ | refine svh (fun hb => ?_) (fun hb => ?_) | refine svb (fun b => ?_) | refine sva ?_ | refine sv3 ?_)); refine S.call ?_; refine (cx _).mono ?_; rintro r h' ⟨rfl, hh⟩; subst hh; (repeat' (first | (refine iS ?_; refine iMu ?_; refine S.mapU ?_) | refine svz ⟨fun b hq => ?_⟩ | refine sv1 ?_ | refine svs ⟨?_⟩ | refine svu ⟨fun u => ?_⟩ | (refine svg (fun hg => ?_) (fun hg => ?_) <;> try (exfalso; first | omega | contradiction)) | (refine svc (fun hc => ?_) (fun hc => ?_) <;> try (exfalso; first | omega | contradiction)) | refine sv2 ?_ | refine svh (fun hb => ?_) (fun hb => ?_) | refine svb (fun b => ?_) | refine sva ?_ | refine sv3 ?_)); refine S.call ?_; refine (cy _).mono ?_; rintro r h' ⟨rfl, hh⟩; subst hh; (repeat' (first | (refine iS ?_; refine iMu ?_; refine S.mapU ?_) | refine svz ⟨fun b hq => ?_⟩ | refine sv1 ?_ | refine svs ⟨?_⟩ | refine svu ⟨fun u => ?_⟩ | (refine svg (fun hg => ?_) (fun hg => ?_) <;> try (exfalso; first | omega | contradiction)) | (refine svc (fun hc => ?_) (fun hc => ?_) <;> try (exfalso; first | omega | contradiction)) | refine sv2 ?_ | refine svh (fun hb => ?_) (fun hb => ?_) | refine svb (fun b => ?_) | refine sva ?_ | refine sv3 ?_))
  exact fin_r (h' := h) ⟨rfl, rfl⟩
theorem quad_at {l : List Int} {i : Nat} (h : 4 * i + 3 < l.length) : ∃ a b c d, l[4 * i]? = some a ∧ l[4 * i + 1]? = some b ∧ l[4 * i + 2]? = some c ∧ l[4 * i + 3]? = some d ∧ (quads l)[i]? = some ⟨a, b, c, d⟩ := by
  obtain ⟨a, ha⟩ : ∃ a, l[4 * i]? = some a := ⟨_, List.getElem?_eq_getElem (by omega)⟩
  obtain ⟨b, hb⟩ : ∃ a, l[4 * i + 1]? = some a := ⟨_, List.getElem?_eq_getElem (by omega)⟩
  obtain ⟨c, hc⟩ : ∃ a, l[4 * i + 2]? = some a := ⟨_, List.getElem?_eq_getElem (by omega)⟩
  obtain ⟨d, hd⟩ : ∃ a, l[4 * i + 3]? = some a := ⟨_, List.getElem?_eq_getElem (by omega)⟩
  exact ⟨a, b, c, d, ha, hb, hc, hd, quads_at l i a b c d ha hb hc hd⟩
set_option maxRecDepth 100000 in
theorem rset_m (p : PN) (x y : Int) (l : List Int) (h : Heap) (hl : p.clip.length ≤ 300) (hL : l.length ≤ 1024) (h0 : chkF p = 0) (hp : placeP x ∧ placeP y) (h4 : l.length % 4 = 0) :
    ACalls Try.prog 17 [p.enc, .val (.int .i64 (x)), .val (.int .i64 (y)), .val (.bool true), .ro 1 (ints .i64 l)] h (fun r h' => (allRt (quads l) = true ∧ ∃ v, r = .tup [(PN.encO { p with x := x, y := y, cl := true } v), .val (.int .i64 (0))] ∧ h' = .own v 4 ((quads l).map RC.enc) 43 :: h) ∨ (allRt (quads l) = false ∧ r = .tup [p.enc, .val (.int .i64 (1))] ∧ h' = h)) := by
  have ck := fun h => rchk_c p h hl
  have cx := fun h => place_c x h
  have cy := fun h => place_c y h
  rw [h0] at ck
  rw [decide_eq_true hp.1] at cx
  rw [decide_eq_true hp.2] at cy
  have rt := right_c
  have qlen := quads_len l
  simp only [pn_enc] at *
  refine ACalls.intro Try.func17 rfl Try.ntmps17 Try.results17 (Nat.le_of_ble_eq_true rfl) ?_
  (repeat' (first | (refine iS ?_; refine iMu ?_; refine S.mapU ?_) | refine svz ⟨fun b hq => ?_⟩ | refine sv1 ?_ | refine svs ⟨?_⟩ | refine svu ⟨fun u => ?_⟩ | (refine svg (fun hg => ?_) (fun hg => ?_) <;> try (exfalso; first | omega | contradiction)) | (refine svc (fun hc => ?_) (fun hc => ?_) <;> try (exfalso; first | omega | contradiction)) | refine sv2 ?_ | refine svh (fun hb => ?_) (fun hb => ?_) | refine svb (fun b => ?_) | refine sva ?_ | refine sv3 ?_))
  refine S.call ?_; refine (ck _).mono ?_; rintro r h' ⟨rfl, hh⟩; subst hh
  (repeat' (first | (refine iS ?_; refine iMu ?_; refine S.mapU ?_) | refine svz ⟨fun b hq => ?_⟩ | refine sv1 ?_ | refine svs ⟨?_⟩ | refine svu ⟨fun u => ?_⟩ | (refine svg (fun hg => ?_) (fun hg => ?_) <;> try (exfalso; first | omega | contradiction)) | (refine svc (fun hc => ?_) (fun hc => ?_) <;> try (exfalso; first | omega | contradiction)) | refine sv2 ?_ | refine svh (fun hb => ?_) (fun hb => ?_) | refine svb (fun b => ?_) | refine sva ?_ | refine sv3 ?_))
  refine S.call ?_; refine (cx _).mono ?_; rintro r h' ⟨rfl, hh⟩; subst hh
  (repeat' (first | (refine iS ?_; refine iMu ?_; refine S.mapU ?_) | refine svz ⟨fun b hq => ?_⟩ | refine sv1 ?_ | refine svs ⟨?_⟩ | refine svu ⟨fun u => ?_⟩ | (refine svg (fun hg => ?_) (fun hg => ?_) <;> try (exfalso; first | omega | contradiction)) | (refine svc (fun hc => ?_) (fun hc => ?_) <;> try (exfalso; first | omega | contradiction)) | refine sv2 ?_ | refine svh (fun hb => ?_) (fun hb => ?_) | refine svb (fun b => ?_) | refine sva ?_ | refine sv3 ?_))
  refine S.call ?_; refine (cy _).mono ?_; rintro r h' ⟨rfl, hh⟩; subst hh
  (repeat' (first | (refine iS ?_; refine iMu ?_; refine S.mapU ?_) | refine svz ⟨fun b hq => ?_⟩ | refine sv1 ?_ | refine svs ⟨?_⟩ | refine svu ⟨fun u => ?_⟩ | (refine svg (fun hg => ?_) (fun hg => ?_) <;> try (exfalso; first | omega | contradiction)) | (refine svc (fun hc => ?_) (fun hc => ?_) <;> try (exfalso; first | omega | contradiction)) | refine sv2 ?_ | refine svh (fun hb => ?_) (fun hb => ?_) | refine svb (fun b => ?_) | refine sva ?_ | refine sv3 ?_))
  revert b; intro b13
  revert b; intro b10
  revert b; intro b5
  clear ck cx cy
  refine W.nil_ 4 43 ?_
  refine W.loop (J := fun z : Nat × Value => ⟨116, [(14, .val (.int .i64 ((4 * z.1 : Nat)))), (13, .val (.pointer (some ⟨b13, 0, none⟩))), (11, .val (.int .i64 (0))), (10, .val (.pointer (some ⟨b10, 0, none⟩))), (5, .val (.pointer (some ⟨b5, 0, none⟩))), (4, .ro 1 (ints .i64 l))], .own z.2 4 ((((quads l).take z.1)).map RC.enc) 43 :: .box b13 [.val (.int .i64 (p.fn)), .val (.int .u8 (p.pl)), .val (.int .u8 (p.fo)), .val (.int .u8 (p.ba)), .val (.int .u32 p.ft), .val (.int .i64 (x)), .val (.int .i64 (y)), .val (.bool true), .val z.2] 34 :: .box b10 [.val (.int .i64 (0)), .val (.int .u8 (0)), .val (.int .u8 (0)), .val (.int .u8 (0)), .val (.int .u32 0), .val (.int .i64 (0)), .val (.int .i64 (0)), .val (.bool false), .val (.slice none 0 0)] 34 :: .box b5 [.val (.int .i64 (p.fn)), .val (.int .u8 (p.pl)), .val (.int .u8 (p.fo)), .val (.int .u8 (p.ba)), .val (.int .u32 p.ft), .val (.int .i64 (p.x)), .val (.int .i64 (p.y)), .val (.bool p.cl), .ro 4 (p.clip.map RC.enc)] 34 :: h⟩)
    (Φ := fun z => z.1 ≤ (quads l).length ∧ allRt ((quads l).take z.1) = true) (μ := fun z => (quads l).length - z.1) (0, .slice none 0 0) lee ⟨Nat.zero_le _, rfl⟩ ?_
  rintro ⟨i, v⟩ ⟨hi, hal⟩
  dsimp only at hi hal ⊢
  rcases Nat.lt_or_ge i (quads l).length with hlt | hge
  · obtain ⟨a, e, c, d, ha, hb, hc, hd, hk⟩ := quad_at (l := l) (i := i) (by omega)
    have no := allRt_no hk
    have yes := fun g => allRt_succ hk g hal
    have tk : (quads l).take (i + 1) = (quads l).take i ++ [⟨a, e, c, d⟩] := by rw [List.take_add_one, hk]; rfl
    have hkl : ((quads l).take i).length ≤ 256 := by rw [List.length_take]; omega
    have rq := fun h => rt ⟨a, e, c, d⟩ h
    have i4 : ((4 * (i + 1) : Nat) : Int) = ((4 * i : Nat) : Int) + 4 := by omega
    have hil : 4 * i + 3 < l.length := by omega
    rw [tk] at yes
    have far : ∀ k q, k < 4 → l[4 * i + k]? = some q → (q < -100000 ∨ 100000 < q) → ¬ (⟨a, e, c, d⟩ : RC).rt := fun k q hk4 hq ho hr => by
      obtain ⟨⟨⟨u1, u2⟩, u3, u4⟩, ⟨u5, u6⟩, u7, u8⟩ := hr
      rcases (by omega : k = 0 ∨ k = 1 ∨ k = 2 ∨ k = 3) with rfl | rfl | rfl | rfl
      · rw [Nat.add_zero, ha] at hq; injection hq with hq; dsimp only at *; omega
      · rw [hb] at hq; injection hq with hq; dsimp only at *; omega
      · rw [hc] at hq; injection hq with hq; dsimp only at *; omega
      · rw [hd] at hq; injection hq with hq; dsimp only at *; omega
    clear rt hal hk
    generalize hQ0 : (quads l).take i = Q0 at *
    generalize hX : 4 * i = X at *
    have hb' : l[((X : Nat) + (1 : Int)).toNat]? = some e := by rw [show ((X : Nat) + (1 : Int)).toNat = X + 1 by omega]; exact hb
    have hc' : l[((X : Nat) + (2 : Int)).toNat]? = some c := by rw [show ((X : Nat) + (2 : Int)).toNat = X + 2 by omega]; exact hc
    have hd' : l[((X : Nat) + (3 : Int)).toNat]? = some d := by rw [show ((X : Nat) + (3 : Int)).toNat = X + 3 by omega]; exact hd
    (repeat' (first | (refine iS ?_; refine iMu ?_; refine S.mapU ?_) | refine svz ⟨fun b hq => ?_⟩ | refine sv1 ?_ | refine svs ⟨?_⟩ | refine svu ⟨fun u => ?_⟩ | (refine svg (fun hg => ?_) (fun hg => ?_) <;> try (exfalso; first | omega | contradiction)) | (refine svc (fun hc => ?_) (fun hc => ?_) <;> try (exfalso; first | omega | contradiction)) | refine sv2 ?_ | refine svh (fun hb => ?_) (fun hb => ?_) | refine svb (fun b => ?_) | refine sva ?_ | refine sv3 ?_))
    refine W.loop (J := fun k : Nat => ⟨116, [(15, .val (.int .i64 (k))), (14, .val (.int .i64 ((X : Nat)))), (13, .val (.pointer (some ⟨b13, 0, none⟩))), (11, .val (.int .i64 (0))), (10, .val (.pointer (some ⟨b10, 0, none⟩))), (5, .val (.pointer (some ⟨b5, 0, none⟩))), (4, .ro 1 (ints .i64 l))], .own v 4 ((Q0).map RC.enc) 43 :: .box b13 [.val (.int .i64 (p.fn)), .val (.int .u8 (p.pl)), .val (.int .u8 (p.fo)), .val (.int .u8 (p.ba)), .val (.int .u32 p.ft), .val (.int .i64 (x)), .val (.int .i64 (y)), .val (.bool true), .val v] 34 :: .box b10 [.val (.int .i64 (0)), .val (.int .u8 (0)), .val (.int .u8 (0)), .val (.int .u8 (0)), .val (.int .u32 0), .val (.int .i64 (0)), .val (.int .i64 (0)), .val (.bool false), .val (.slice none 0 0)] 34 :: .box b5 [.val (.int .i64 (p.fn)), .val (.int .u8 (p.pl)), .val (.int .u8 (p.fo)), .val (.int .u8 (p.ba)), .val (.int .u32 p.ft), .val (.int .i64 (p.x)), .val (.int .i64 (p.y)), .val (.bool p.cl), .ro 4 (p.clip.map RC.enc)] 34 :: h⟩)
      (Φ := fun k => k ≤ 4) (μ := fun k => 4 - k) 0 lee (Nat.zero_le _) ?_
    intro k hk
    rcases Nat.lt_or_ge k 4 with hk4 | hk4
    · obtain ⟨q, hq⟩ : ∃ q, l[X + k]? = some q := ⟨_, List.getElem?_eq_getElem (by omega)⟩
      have hq' : l[((X : Nat) + (k : Int)).toNat]? = some q := by rw [show ((X : Nat) + (k : Int)).toNat = X + k by omega]; exact hq
      have fr : Hold _ := ⟨fun g => no (far k q hk4 hq g)⟩
      clear far no yes ha hb hc hd hb' hc' hd' hq rq
      (repeat' (first | (refine iS ?_; refine iMu ?_; refine S.mapU ?_) | refine svz ⟨fun b hq => ?_⟩ | refine sv1 ?_ | refine svs ⟨?_⟩ | refine svu ⟨fun u => ?_⟩ | (refine svg (fun hg => ?_) (fun hg => ?_) <;> try (exfalso; first | omega | contradiction)) | (refine svc (fun hc => ?_) (fun hc => ?_) <;> try (exfalso; first | omega | contradiction)) | refine sv2 ?_ | refine svh (fun hb => ?_) (fun hb => ?_) | refine svb (fun b => ?_) | refine sva ?_ | refine sv3 ?_))
      · exact fin_r (h' := h) (.inr ⟨fr.out (by omega), rfl, rfl⟩)
      · exact ⟨k + 1, hk4, lee, by omega⟩
      · exact fin_r (h' := h) (.inr ⟨fr.out (by omega), rfl, rfl⟩)
    · have e : k = 4 := by omega
      subst e
      clear far hb hc hd hk hk4
      by_cases hr : (⟨a, e, c, d⟩ : RC).rt
      · rw [decide_eq_true hr] at rq
        have ys := yes hr
        clear no yes
        (repeat' (first | (refine iS ?_; refine iMu ?_; refine S.mapU ?_) | refine svz ⟨fun b hq => ?_⟩ | refine sv1 ?_ | refine svs ⟨?_⟩ | refine svu ⟨fun u => ?_⟩ | (refine svg (fun hg => ?_) (fun hg => ?_) <;> try (exfalso; first | omega | contradiction)) | (refine svc (fun hc => ?_) (fun hc => ?_) <;> try (exfalso; first | omega | contradiction)) | refine sv2 ?_ | refine svh (fun hb => ?_) (fun hb => ?_) | refine svb (fun b => ?_) | refine sva ?_ | refine sv3 ?_))
        refine S.call ?_; refine (rq _).mono ?_; rintro r h' ⟨rfl, hh⟩; subst hh
        (repeat' (first | (refine iS ?_; refine iMu ?_; refine S.mapU ?_) | refine svz ⟨fun b hq => ?_⟩ | refine sv1 ?_ | refine svs ⟨?_⟩ | refine svu ⟨fun u => ?_⟩ | (refine svg (fun hg => ?_) (fun hg => ?_) <;> try (exfalso; first | omega | contradiction)) | (refine svc (fun hc => ?_) (fun hc => ?_) <;> try (exfalso; first | omega | contradiction)) | refine sv2 ?_ | refine svh (fun hb => ?_) (fun hb => ?_) | refine svb (fun b => ?_) | refine sva ?_ | refine sv3 ?_))
        refine ⟨(i + 1, u), ⟨hlt, by dsimp only; rw [tk]; exact ys⟩, ?_, by dsimp only; omega⟩
        dsimp only
        rw [tk, List.map_append, i4]
        exact lee
      · rw [decide_eq_false hr] at rq
        have ns := no hr
        clear no yes
        (repeat' (first | (refine iS ?_; refine iMu ?_; refine S.mapU ?_) | refine svz ⟨fun b hq => ?_⟩ | refine sv1 ?_ | refine svs ⟨?_⟩ | refine svu ⟨fun u => ?_⟩ | (refine svg (fun hg => ?_) (fun hg => ?_) <;> try (exfalso; first | omega | contradiction)) | (refine svc (fun hc => ?_) (fun hc => ?_) <;> try (exfalso; first | omega | contradiction)) | refine sv2 ?_ | refine svh (fun hb => ?_) (fun hb => ?_) | refine svb (fun b => ?_) | refine sva ?_ | refine sv3 ?_))
        refine S.call ?_; refine (rq _).mono ?_; rintro r h' ⟨rfl, hh⟩; subst hh
        (repeat' (first | (refine iS ?_; refine iMu ?_; refine S.mapU ?_) | refine svz ⟨fun b hq => ?_⟩ | refine sv1 ?_ | refine svs ⟨?_⟩ | refine svu ⟨fun u => ?_⟩ | (refine svg (fun hg => ?_) (fun hg => ?_) <;> try (exfalso; first | omega | contradiction)) | (refine svc (fun hc => ?_) (fun hc => ?_) <;> try (exfalso; first | omega | contradiction)) | refine sv2 ?_ | refine svh (fun hb => ?_) (fun hb => ?_) | refine svb (fun b => ?_) | refine sva ?_ | refine sv3 ?_))
        exact fin_r (h' := h) (.inr ⟨ns, rfl, rfl⟩)
  · have e : i = (quads l).length := by omega
    rw [List.take_of_length_le (by omega)] at hal ⊢
    have e2 : 4 * i = l.length := by omega
    rw [e2]
    clear rt
    (repeat' (first | (refine iS ?_; refine iMu ?_; refine S.mapU ?_) | refine svz ⟨fun b hq => ?_⟩ | refine sv1 ?_ | refine svs ⟨?_⟩ | refine svu ⟨fun u => ?_⟩ | (refine svg (fun hg => ?_) (fun hg => ?_) <;> try (exfalso; first | omega | contradiction)) | (refine svc (fun hc => ?_) (fun hc => ?_) <;> try (exfalso; first | omega | contradiction)) | refine sv2 ?_ | refine svh (fun hb => ?_) (fun hb => ?_) | refine svb (fun b => ?_) | refine sva ?_ | refine sv3 ?_))
    exact fin_r (h' := .own v 4 ((quads l).map RC.enc) 43 :: h) (.inl ⟨hal, v, rfl, rfl⟩)
set_option maxRecDepth 100000 in
theorem rset_z (p : PN) (x y : Int) (h : Heap) (hl : p.clip.length ≤ 300) (h0 : chkF p = 0) (hp : placeP x ∧ placeP y) :
    ACalls Try.prog 17 [p.enc, .val (.int .i64 (x)), .val (.int .i64 (y)), .val (.bool false), .ro 1 (ints .i64 [])] h (fun r h' => r = .tup [(PN.enc { p with x := x, y := y, cl := false, clip := [] }), .val (.int .i64 (0))] ∧ h' = h) := by
  have ck := fun h => rchk_c p h hl
  have cx := fun h => place_c x h
  have cy := fun h => place_c y h
  rw [h0] at ck
  rw [decide_eq_true hp.1] at cx
  rw [decide_eq_true hp.2] at cy
  refine ACalls.wk (Q := fun r h' => r = .tup [(PN.encO { p with x := x, y := y, cl := false } (.slice none 0 0)), .val (.int .i64 (0))] ∧ h' = h) ?_ ?_
  · simp only [pn_enc] at *
    refine ACalls.intro Try.func17 rfl Try.ntmps17 Try.results17 (Nat.le_of_ble_eq_true rfl) ?_
    (repeat' (first | (refine iS ?_; refine iMu ?_; refine S.mapU ?_) | refine svz ⟨fun b hq => ?_⟩ | refine sv1 ?_ | refine svs ⟨?_⟩ | refine svu ⟨fun u => ?_⟩ | (refine svg (fun hg => ?_) (fun hg => ?_) <;> try (exfalso; first | omega | contradiction)) | (refine svc (fun hc => ?_) (fun hc => ?_) <;> try (exfalso; first | omega | contradiction)) | refine sv2 ?_ | refine svh (fun hb => ?_) (fun hb => ?_) | refine svb (fun b => ?_) | refine sva ?_ | refine sv3 ?_))
    refine S.call ?_; refine (ck _).mono ?_; rintro r h' ⟨rfl, hh⟩; subst hh
    (repeat' (first | (refine iS ?_; refine iMu ?_; refine S.mapU ?_) | refine svz ⟨fun b hq => ?_⟩ | refine sv1 ?_ | refine svs ⟨?_⟩ | refine svu ⟨fun u => ?_⟩ | (refine svg (fun hg => ?_) (fun hg => ?_) <;> try (exfalso; first | omega | contradiction)) | (refine svc (fun hc => ?_) (fun hc => ?_) <;> try (exfalso; first | omega | contradiction)) | refine sv2 ?_ | refine svh (fun hb => ?_) (fun hb => ?_) | refine svb (fun b => ?_) | refine sva ?_ | refine sv3 ?_))
    refine S.call ?_; refine (cx _).mono ?_; rintro r h' ⟨rfl, hh⟩; subst hh
    (repeat' (first | (refine iS ?_; refine iMu ?_; refine S.mapU ?_) | refine svz ⟨fun b hq => ?_⟩ | refine sv1 ?_ | refine svs ⟨?_⟩ | refine svu ⟨fun u => ?_⟩ | (refine svg (fun hg => ?_) (fun hg => ?_) <;> try (exfalso; first | omega | contradiction)) | (refine svc (fun hc => ?_) (fun hc => ?_) <;> try (exfalso; first | omega | contradiction)) | refine sv2 ?_ | refine svh (fun hb => ?_) (fun hb => ?_) | refine svb (fun b => ?_) | refine sva ?_ | refine sv3 ?_))
    refine S.call ?_; refine (cy _).mono ?_; rintro r h' ⟨rfl, hh⟩; subst hh
    (repeat' (first | (refine iS ?_; refine iMu ?_; refine S.mapU ?_) | refine svz ⟨fun b hq => ?_⟩ | refine sv1 ?_ | refine svs ⟨?_⟩ | refine svu ⟨fun u => ?_⟩ | (refine svg (fun hg => ?_) (fun hg => ?_) <;> try (exfalso; first | omega | contradiction)) | (refine svc (fun hc => ?_) (fun hc => ?_) <;> try (exfalso; first | omega | contradiction)) | refine sv2 ?_ | refine svh (fun hb => ?_) (fun hb => ?_) | refine svb (fun b => ?_) | refine sva ?_ | refine sv3 ?_))
    revert b; intro b13
    revert b; intro b10
    revert b; intro b5
    refine W.loop (J := fun z : Unit => ⟨116, [(14, .val (.int .i64 (0))), (13, .val (.pointer (some ⟨b13, 0, none⟩))), (11, .val (.int .i64 (0))), (10, .val (.pointer (some ⟨b10, 0, none⟩))), (4, .ro 1 [])], .box b13 [.val (.int .i64 (p.fn)), .val (.int .u8 (p.pl)), .val (.int .u8 (p.fo)), .val (.int .u8 (p.ba)), .val (.int .u32 p.ft), .val (.int .i64 (x)), .val (.int .i64 (y)), .val (.bool false), .val (.slice none 0 0)] 34 :: .box b10 [.val (.int .i64 (0)), .val (.int .u8 (0)), .val (.int .u8 (0)), .val (.int .u8 (0)), .val (.int .u32 0), .val (.int .i64 (0)), .val (.int .i64 (0)), .val (.bool false), .val (.slice none 0 0)] 34 :: h⟩)
      (Φ := fun z => True) (μ := fun z => 0) () lee trivial ?_
    rintro ⟨⟩ _
    (repeat' (first | (refine iS ?_; refine iMu ?_; refine S.mapU ?_) | refine svz ⟨fun b hq => ?_⟩ | refine sv1 ?_ | refine svs ⟨?_⟩ | refine svu ⟨fun u => ?_⟩ | (refine svg (fun hg => ?_) (fun hg => ?_) <;> try (exfalso; first | omega | contradiction)) | (refine svc (fun hc => ?_) (fun hc => ?_) <;> try (exfalso; first | omega | contradiction)) | refine sv2 ?_ | refine svh (fun hb => ?_) (fun hb => ?_) | refine svb (fun b => ?_) | refine sva ?_ | refine sv3 ?_))
    exact fin_r (h' := h) ⟨rfl, rfl⟩
  · rintro v h' ⟨rfl, rfl⟩
    refine ⟨_, ?_, rfl, rfl⟩
    unfold PN.encO
    rw [pn_enc]
    exact (by (repeat (first | exact Wk.refl _ | exact Wk.nilr _ | exact Wk.nilm | apply Wk.aggc | apply Wk.tupc | exact Wk.aggn | exact Wk.tupn)); first | done | fail)
theorem rset_c (p : PN) (x y : Int) (cl : Bool) (l : List Int) (h : Heap) (hl : p.clip.length ≤ 300) (hL : l.length ≤ 1100) :
    ACalls Try.prog 17 [p.enc, .val (.int .i64 (x)), .val (.int .i64 (y)), .val (.bool cl), .ro 1 (ints .i64 l)] h (fun r h' => r = .tup [(setF p x y cl l).1.enc, .val (.int .i64 ((setF p x y cl l).2))] ∧ h' = h) := by
  by_cases hq : chkF p = 0 ∧ (placeP x ∧ placeP y) ∧ ¬ ((cl = false ∧ 0 < l.length) ∨ l.length % 4 ≠ 0) ∧ l.length ≤ 1024
  rotate_left
  · exact rset_e p x y cl l h hl hL hq
  obtain ⟨h0, hp, hm, h5⟩ := hq
  have e : setF p x y cl l = if allRt (quads l) = true then ({ p with x := x, y := y, cl := cl, clip := quads l }, 0) else (p, 1) := by
    unfold setF
    rw [if_neg (fun q => q h0), if_neg (fun q => q hp), if_neg hm, if_neg (by omega)]
  cases cl with
  | true =>
    refine (rset_m p x y l h hl h5 h0 hp (by omega)).frzo ?_
    rintro r h' (⟨g, v, rfl, rfl⟩ | ⟨g, rfl, rfl⟩)
    · rw [if_pos g] at e
      rw [e]
      refine .inr ⟨v, 4, _, _, .tup [PN.enc { p with x := x, y := y, cl := true, clip := quads l }, .val (.int .i64 (0))], h, .here, ?_, rfl, rfl⟩
      unfold PN.encO
      rw [pn_enc]
      exact .tupc (.aggc (.keep _) (.aggc (.keep _) (.aggc (.keep _) (.aggc (.keep _) (.aggc (.keep _) (.aggc (.keep _) (.aggc (.keep _) (.aggc (.keep _) (.aggc .hit .aggn))))))))) (.tupc (.keep _) .tupn)
    · rw [if_neg (by rw [g]; decide)] at e
      rw [e]
      exact .inl ⟨rfl, rfl⟩
  | false =>
    have : l = [] := List.length_eq_zero_iff.1 (by
      rcases Nat.eq_zero_or_pos l.length with g | g
      · exact g
      · exact absurd (.inl ⟨rfl, g⟩) hm)
    subst this
    rw [if_pos (show allRt (quads []) = true from rfl)] at e
    rw [e]
    exact rset_z p x y h hl h0 hp
end Go.Proofs.Ytmfbfbhkjclhkaa
