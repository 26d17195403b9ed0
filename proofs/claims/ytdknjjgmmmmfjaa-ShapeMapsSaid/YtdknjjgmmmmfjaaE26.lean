/- ShapeMaps. No condition. -/
import Derived.Test.YtdknjjgmmmmfjaaE25
import Derived.Test.YtdknjjgmmmmfjaaE24
import Derived.Test.YtdknjjgmmmmfjaaE13
import Derived.Test.YtdknjjgmmmmfjaaG10
namespace Go.Proofs.Ytdknjjgmmmmfjaa
open Go Go.VM
attribute [local irreducible] PurV Pur Step RL W D ACalls Then InBlock Fini
set_option linter.unusedVariables false
set_option linter.unusedSimpArgs false
set_option maxHeartbeats 20000000
/-- The bits of a bitmap that was made of places. -/
theorem bit_of {st G : Nat} {P : Int → Int → Bool} (hst : 0 < st) {x y : Nat} (hx : x < 8 * st) (hy : y < G) : bitP (strB (bytesF st G P)) (8 * st * y + x) = 1 ↔ P (x : Nat) (y : Nat) = true := by
  have hi : st * y + x / 8 < st * G := by
    have : st * (y + 1) ≤ st * G := Nat.mul_le_mul_left _ hy
    rw [Nat.mul_add, Nat.mul_one] at this
    omega
  have e1 : (8 * st * y + x) / 8 = st * y + x / 8 := by rw [Nat.mul_assoc, Nat.mul_add_div (by decide)]
  have e2 : (8 * st * y + x) % 8 = x % 8 := by rw [Nat.mul_assoc, Nat.mul_add_mod]
  have hb := byte_in fun k => P ((8 * (x / 8) + k : Nat) : Int) (y : Nat)
  have hc := cell_row (st := st) (y := y) (i := x / 8) (by omega) P
  have h1 := bt_str (bytes_at (p := P) hi) (by rw [hc]; exact hb)
  rw [hc] at h1
  unfold bitP
  rw [e1, e2]
  have h2 := byte_bit (fun k => P ((8 * (x / 8) + k : Nat) : Int) (y : Nat)) (k := x % 8) (by omega)
  rw [← h1, Int.toNat_natCast] at h2
  rw [← beq_iff_eq (a := bt (strB (bytesF st G P)) (st * y + x / 8) / 2 ^ (x % 8) % 2), h2]
  rw [show 8 * (x / 8) + x % 8 = x by omega]
theorem ones_of {st G : Nat} {P : Int → Int → Bool} {s : ByteArray} (hs : s = strB (bytesF st G P)) (hst : 0 < st) {p : Nat × Nat} : p ∈ onesP s st (8 * s.size) ↔ p.1 < 8 * st ∧ p.2 < G ∧ P (p.1 : Nat) (p.2 : Nat) = true := by
  have hsz : s.size = st * G := by rw [hs, strB_size, bytes_len]
  constructor
  · intro hp
    obtain ⟨q, hq, rfl, hb⟩ := onesP_mem hp
    have h1 := (lin_pt (st := st) (q := q) hst)
    have h2 := pt_row (st := st) (q := q) (h := G) (by rw [← hsz]; exact hq) hst
    refine ⟨h1.2, h2, ?_⟩
    rw [← bit_of (P := P) hst h1.2 h2, ← hs, h1.1]
    exact hb
  · rintro ⟨h1, h2, h3⟩
    refine (ones_mem h1).2 ⟨?_, by rw [hs]; exact (bit_of hst h1 h2).2 h3⟩
    rw [hsz]
    have : st * (p.2 + 1) ≤ st * G := Nat.mul_le_mul_left _ h2
    rw [Nat.mul_add, Nat.mul_one] at this
    rw [Nat.mul_assoc]; omega
set_option maxRecDepth 100000 in
theorem maps_c (l : List Sq) (w g : Int) (okl : ∀ q ∈ l, q.ok) (hlm : l.length ≤ maxLen) : ACalls Try.prog 8 [.ro 4 (l.map Sq.enc), .val (.int .i64 (w)), .val (.int .i64 (g))] [] (fun r h' => r = .val (.bool true)) := by
  unfold maxLen at hlm
  by_cases h6 : 6 < l.length
  · refine ACalls.intro Try.func8 rfl Try.ntmps8 Try.results8 (Nat.le_of_ble_eq_true rfl) ?_
    (repeat' (first | (refine iS ?_; refine iMu ?_; refine S.mapU ?_) | refine svz ⟨fun b hq => ?_⟩ | refine sv1 ?_ | refine svs ⟨?_⟩ | refine svu ⟨fun u => ?_⟩ | (refine svg (fun hg => ?_) (fun hg => ?_) <;> try (exfalso; first | omega | contradiction)) | (refine svc (fun hc => ?_) (fun hc => ?_) <;> try (exfalso; first | omega | contradiction)) | refine sv2 ?_ | refine svh (fun hb => ?_) (fun hb => ?_) | refine svb (fun b => ?_) | refine sva ?_ | refine sv3 ?_))
    refine S.call ?_; refine (awake_c _).mono ?_; rintro r h' ⟨rfl, hh⟩; subst hh
    (repeat' (first | (refine iS ?_; refine iMu ?_; refine S.mapU ?_) | refine svz ⟨fun b hq => ?_⟩ | refine sv1 ?_ | refine svs ⟨?_⟩ | refine svu ⟨fun u => ?_⟩ | (refine svg (fun hg => ?_) (fun hg => ?_) <;> try (exfalso; first | omega | contradiction)) | (refine svc (fun hc => ?_) (fun hc => ?_) <;> try (exfalso; first | omega | contradiction)) | refine sv2 ?_ | refine svh (fun hb => ?_) (fun hb => ?_) | refine svb (fun b => ?_) | refine sva ?_ | refine sv3 ?_))
    exact fin_r (h' := _) rfl
  by_cases h20 : 20 < w ∨ 20 < g
  · refine ACalls.intro Try.func8 rfl Try.ntmps8 Try.results8 (Nat.le_of_ble_eq_true rfl) ?_
    (repeat' (first | (refine iS ?_; refine iMu ?_; refine S.mapU ?_) | refine svz ⟨fun b hq => ?_⟩ | refine sv1 ?_ | refine svs ⟨?_⟩ | refine svu ⟨fun u => ?_⟩ | (refine svg (fun hg => ?_) (fun hg => ?_) <;> try (exfalso; first | omega | contradiction)) | (refine svc (fun hc => ?_) (fun hc => ?_) <;> try (exfalso; first | omega | contradiction)) | refine sv2 ?_ | refine svh (fun hb => ?_) (fun hb => ?_) | refine svb (fun b => ?_) | refine sva ?_ | refine sv3 ?_))
    all_goals first | (exfalso; omega) | skip
    all_goals
      refine S.call ?_; refine (awake_c _).mono ?_; rintro r h' ⟨rfl, hh⟩; subst hh
      (repeat' (first | (refine iS ?_; refine iMu ?_; refine S.mapU ?_) | refine svz ⟨fun b hq => ?_⟩ | refine sv1 ?_ | refine svs ⟨?_⟩ | refine svu ⟨fun u => ?_⟩ | (refine svg (fun hg => ?_) (fun hg => ?_) <;> try (exfalso; first | omega | contradiction)) | (refine svc (fun hc => ?_) (fun hc => ?_) <;> try (exfalso; first | omega | contradiction)) | refine sv2 ?_ | refine svh (fun hb => ?_) (fun hb => ?_) | refine svb (fun b => ?_) | refine sva ?_ | refine sv3 ?_))
      exact fin_r (h' := _) rfl
  have c0 := fun h => rectsS_c l h (by omega) okl
  have bA := sm_bx l
  have okP := sm_all (l := l)
  have hlP : (l.map Sq.rc).length ≤ 6 := by rw [List.length_map]; omega
  generalize l.map Sq.rc = P at *
  have c1 := fun h => of_c P h (by omega) okP
  by_cases hn : (w < 1 ∨ 128 < w) ∨ (g < 1 ∨ 128 < g)
  · have c2 := fun h => sbits_size (.tup []) w g h (ofF P) hn
    have c3 := fun h => rbits_size P w g h hn
    generalize ofF P = A at *
    unfold regE at *
    refine ACalls.intro Try.func8 rfl Try.ntmps8 Try.results8 (Nat.le_of_ble_eq_true rfl) ?_
    (repeat' (first | (refine iS ?_; refine iMu ?_; refine S.mapU ?_) | refine svz ⟨fun b hq => ?_⟩ | refine sv1 ?_ | refine svs ⟨?_⟩ | refine svu ⟨fun u => ?_⟩ | (refine svg (fun hg => ?_) (fun hg => ?_) <;> try (exfalso; first | omega | contradiction)) | (refine svc (fun hc => ?_) (fun hc => ?_) <;> try (exfalso; first | omega | contradiction)) | refine sv2 ?_ | refine svh (fun hb => ?_) (fun hb => ?_) | refine svb (fun b => ?_) | refine sva ?_ | refine sv3 ?_))
    refine S.call ?_; refine (c0 _).mono ?_; rintro r h' ⟨rfl, hh⟩; subst hh
    (repeat' (first | (refine iS ?_; refine iMu ?_; refine S.mapU ?_) | refine svz ⟨fun b hq => ?_⟩ | refine sv1 ?_ | refine svs ⟨?_⟩ | refine svu ⟨fun u => ?_⟩ | (refine svg (fun hg => ?_) (fun hg => ?_) <;> try (exfalso; first | omega | contradiction)) | (refine svc (fun hc => ?_) (fun hc => ?_) <;> try (exfalso; first | omega | contradiction)) | refine sv2 ?_ | refine svh (fun hb => ?_) (fun hb => ?_) | refine svb (fun b => ?_) | refine sva ?_ | refine sv3 ?_))
    refine S.call ?_; refine (c1 _).mono ?_; rintro r h' ⟨rfl, hh⟩; subst hh
    (repeat' (first | (refine iS ?_; refine iMu ?_; refine S.mapU ?_) | refine svz ⟨fun b hq => ?_⟩ | refine sv1 ?_ | refine svs ⟨?_⟩ | refine svu ⟨fun u => ?_⟩ | (refine svg (fun hg => ?_) (fun hg => ?_) <;> try (exfalso; first | omega | contradiction)) | (refine svc (fun hc => ?_) (fun hc => ?_) <;> try (exfalso; first | omega | contradiction)) | refine sv2 ?_ | refine svh (fun hb => ?_) (fun hb => ?_) | refine svb (fun b => ?_) | refine sva ?_ | refine sv3 ?_))
    refine S.call ?_; refine (c2 _).mono ?_; rintro r h' ⟨rfl, hh⟩; subst hh
    (repeat' (first | (refine iS ?_; refine iMu ?_; refine S.mapU ?_) | refine svz ⟨fun b hq => ?_⟩ | refine sv1 ?_ | refine svs ⟨?_⟩ | refine svu ⟨fun u => ?_⟩ | (refine svg (fun hg => ?_) (fun hg => ?_) <;> try (exfalso; first | omega | contradiction)) | (refine svc (fun hc => ?_) (fun hc => ?_) <;> try (exfalso; first | omega | contradiction)) | refine sv2 ?_ | refine svh (fun hb => ?_) (fun hb => ?_) | refine svb (fun b => ?_) | refine sva ?_ | refine sv3 ?_))
    refine S.call ?_; refine (c3 _).mono ?_; rintro r h' ⟨rfl, hh⟩; subst hh
    (repeat' (first | (refine iS ?_; refine iMu ?_; refine S.mapU ?_) | refine svz ⟨fun b hq => ?_⟩ | refine sv1 ?_ | refine svs ⟨?_⟩ | refine svu ⟨fun u => ?_⟩ | (refine svg (fun hg => ?_) (fun hg => ?_) <;> try (exfalso; first | omega | contradiction)) | (refine svc (fun hc => ?_) (fun hc => ?_) <;> try (exfalso; first | omega | contradiction)) | refine sv2 ?_ | refine svh (fun hb => ?_) (fun hb => ?_) | refine svb (fun b => ?_) | refine sva ?_ | refine sv3 ?_))
    refine iS ?_
    refine step_v (pur_neqstr_f rfl rfl rfl) rfl ?_
    (repeat' (first | (refine iS ?_; refine iMu ?_; refine S.mapU ?_) | refine svz ⟨fun b hq => ?_⟩ | refine sv1 ?_ | refine svs ⟨?_⟩ | refine svu ⟨fun u => ?_⟩ | (refine svg (fun hg => ?_) (fun hg => ?_) <;> try (exfalso; first | omega | contradiction)) | (refine svc (fun hc => ?_) (fun hc => ?_) <;> try (exfalso; first | omega | contradiction)) | refine sv2 ?_ | refine svh (fun hb => ?_) (fun hb => ?_) | refine svb (fun b => ?_) | refine sva ?_ | refine sv3 ?_))
    refine S.call ?_; refine (awake_c _).mono ?_; rintro r h' ⟨rfl, hh⟩; subst hh
    (repeat' (first | (refine iS ?_; refine iMu ?_; refine S.mapU ?_) | refine svz ⟨fun b hq => ?_⟩ | refine sv1 ?_ | refine svs ⟨?_⟩ | refine svu ⟨fun u => ?_⟩ | (refine svg (fun hg => ?_) (fun hg => ?_) <;> try (exfalso; first | omega | contradiction)) | (refine svc (fun hc => ?_) (fun hc => ?_) <;> try (exfalso; first | omega | contradiction)) | refine sv2 ?_ | refine svh (fun hb => ?_) (fun hb => ?_) | refine svb (fun b => ?_) | refine sva ?_ | refine sv3 ?_))
    exact fin_r (h' := _) rfl
  have hw : 1 ≤ w ∧ w ≤ 20 := by omega
  have hg : 1 ≤ g ∧ g ≤ 20 := by omega
  obtain ⟨G, rfl⟩ : ∃ G : Nat, g = (G : Int) := ⟨g.toNat, by omega⟩
  obtain ⟨V, rfl⟩ : ∃ V : Nat, w = (V : Int) := ⟨w.toNat, by omega⟩
  obtain ⟨st, hst⟩ : ∃ st : Nat, ((V : Int) + 7) / 8 = (st : Int) := ⟨(((V : Int) + 7) / 8).toNat, by omega⟩
  have hst1 : 1 ≤ st ∧ st ≤ 3 := by omega
  have hV8 : V ≤ 8 * st := by omega
  have hm : ((V : Int) + 7) / 8 * (G : Int) = ((st * G : Nat) : Int) := by rw [hst]; push_cast; rfl
  have hm2 : st * G ≤ 3 * 20 := Nat.mul_le_mul hst1.2 (by omega)
  have hb : 0 ≤ ((V : Int) + 7) / 8 * (G : Int) ∧ ((V : Int) + 7) / 8 * (G : Int) ≤ 100000 := by rw [hm]; omega
  have c2 := fun h => sbits_c (ofF P) (V : Int) G st h (by omega) (by omega) hst (jok_w (bA.wide (n' := 128) (by omega) (by omega)))
  have c3 := fun h => rbits_c P (V : Int) G st h okP (by omega) (by omega) hst
  have eS : bytesF st G (fun x y => hasF P x y && decide (x < (V : Int))) = bytesF st G (fun x y => hasR (ofF P) x y && decide ((0 ≤ x ∧ x < (V : Int)) ∧ 0 ≤ y ∧ y < (G : Int))) := bytes_congr fun x y hx hy => by
    rw [has_ofF]
    congr 1
    exact decide_eq_decide.2 (by omega)
  rw [eS] at c3
  clear eS
  have hm3 := fun p => ones_of (p := p) (st := st) (G := G) (P := fun x y => hasR (ofF P) x y && decide ((0 ≤ x ∧ x < (V : Int)) ∧ 0 ≤ y ∧ y < (G : Int))) rfl (by omega)
  have hsz : (strB (bytesF st G (fun x y => hasR (ofF P) x y && decide ((0 ≤ x ∧ x < (V : Int)) ∧ 0 ≤ y ∧ y < (G : Int))))).size = st * G := by rw [strB_size, bytes_len]
  generalize strB (bytesF st G (fun x y => hasR (ofF P) x y && decide ((0 ≤ x ∧ x < (V : Int)) ∧ 0 ≤ y ∧ y < (G : Int)))) = s at *
  have hall : ∀ p ∈ onesP s st (8 * s.size), (p.1 : Int) < (V : Int) := fun p hp => by
    have := ((hm3 _).1 hp).2.2
    rw [Bool.and_eq_true, decide_eq_true_iff] at this
    exact this.2.1.2
  have c4 := fun h => sof_c (V : Int) (G : Int) st s h (by omega) (by omega) hst hb (by rw [hm]; omega) (by omega) hall
  have bR := on_bx (w := (V : Int)) (G := G) (st := st) (by omega) (by omega) (by omega) hsz (by omega) hall
  have hR : ∀ x y : Int, hasR (ofF (listO (onesP s st (8 * s.size)))) x y = (hasF P x y && decide ((0 ≤ x ∧ x < (V : Int)) ∧ 0 ≤ y ∧ y < (G : Int))) := fun x y => by
    rw [Bool.eq_iff_iff, on_has (by omega) (by omega)]
    constructor
    · rintro ⟨p, hp, rfl, rfl⟩
      have := ((hm3 _).1 hp).2.2
      rwa [has_ofF] at this
    · intro h
      have h' := h
      rw [Bool.and_eq_true, decide_eq_true_iff] at h'
      obtain ⟨_, ⟨a1, a2⟩, a3, a4⟩ := h'
      exact ⟨(x.toNat, y.toNat), (hm3 _).2 ⟨by dsimp only; omega, by dsimp only; omega, by dsimp only; rw [show ((x.toNat : Nat) : Int) = x by omega, show ((y.toNat : Nat) : Int) = y by omega, has_ofF]; exact h⟩, by dsimp only; omega, by dsimp only; omega⟩
  have har : areaF (ofF (listO (onesP s st (8 * s.size)))) = cntR 0 0 V (hasR (ofF (listO (onesP s st (8 * s.size))))) G 0 := by
    rw [cntR_end, areaF_gridR (x0 := 0) (y0 := 0) (w := V) (h := G) bR.can (by omega) (by omega)]
    intro r hr
    obtain ⟨⟨a1, a2, a3⟩, a4, a5, a6⟩ := bR.can.cnt r hr
    have q1 : hasR (ofF (listO (onesP s st (8 * s.size)))) r.x r.y = true := hasR_iff.2 ⟨r, hr, by unfold RC.has; omega⟩
    have q2 : hasR (ofF (listO (onesP s st (8 * s.size)))) (r.x + r.w - 1) (r.y + r.h - 1) = true := hasR_iff.2 ⟨r, hr, by unfold RC.has; omega⟩
    rw [hR, Bool.and_eq_true, decide_eq_true_iff] at q1 q2
    omega
  have hlR := bR.len
  have ar := fun h => barea_c (ofF (listO (onesP s st (8 * s.size)))) h (by omega) (fun r hr => (bR.can.cnt r hr).sm)
  rw [har] at ar
  have h1 := fun x y h => bhas_c (ofF (listO (onesP s st (8 * s.size)))) x y h (by omega) bR.can.cnt bR.can.y
  have h2 := fun x y h => rhas_c P x y h okP
  clear har hlR bR hall hm3 hsz bA
  generalize ofF (listO (onesP s st (8 * s.size))) = R at *
  generalize ofF P = A at *
  unfold regE at *
  refine ACalls.intro Try.func8 rfl Try.ntmps8 Try.results8 (Nat.le_of_ble_eq_true rfl) ?_
  (repeat' (first | (refine iS ?_; refine iMu ?_; refine S.mapU ?_) | refine svz ⟨fun b hq => ?_⟩ | refine sv1 ?_ | refine svs ⟨?_⟩ | refine svu ⟨fun u => ?_⟩ | (refine svg (fun hg => ?_) (fun hg => ?_) <;> try (exfalso; first | omega | contradiction)) | (refine svc (fun hc => ?_) (fun hc => ?_) <;> try (exfalso; first | omega | contradiction)) | refine sv2 ?_ | refine svh (fun hb => ?_) (fun hb => ?_) | refine svb (fun b => ?_) | refine sva ?_ | refine sv3 ?_))
  refine S.call ?_; refine (c0 _).mono ?_; rintro r h' ⟨rfl, hh⟩; subst hh
  (repeat' (first | (refine iS ?_; refine iMu ?_; refine S.mapU ?_) | refine svz ⟨fun b hq => ?_⟩ | refine sv1 ?_ | refine svs ⟨?_⟩ | refine svu ⟨fun u => ?_⟩ | (refine svg (fun hg => ?_) (fun hg => ?_) <;> try (exfalso; first | omega | contradiction)) | (refine svc (fun hc => ?_) (fun hc => ?_) <;> try (exfalso; first | omega | contradiction)) | refine sv2 ?_ | refine svh (fun hb => ?_) (fun hb => ?_) | refine svb (fun b => ?_) | refine sva ?_ | refine sv3 ?_))
  refine S.call ?_; refine (c1 _).mono ?_; rintro r h' ⟨rfl, hh⟩; subst hh
  (repeat' (first | (refine iS ?_; refine iMu ?_; refine S.mapU ?_) | refine svz ⟨fun b hq => ?_⟩ | refine sv1 ?_ | refine svs ⟨?_⟩ | refine svu ⟨fun u => ?_⟩ | (refine svg (fun hg => ?_) (fun hg => ?_) <;> try (exfalso; first | omega | contradiction)) | (refine svc (fun hc => ?_) (fun hc => ?_) <;> try (exfalso; first | omega | contradiction)) | refine sv2 ?_ | refine svh (fun hb => ?_) (fun hb => ?_) | refine svb (fun b => ?_) | refine sva ?_ | refine sv3 ?_))
  refine S.call ?_; refine (c2 _).mono ?_; rintro r h' ⟨rfl, hh⟩; subst hh
  (repeat' (first | (refine iS ?_; refine iMu ?_; refine S.mapU ?_) | refine svz ⟨fun b hq => ?_⟩ | refine sv1 ?_ | refine svs ⟨?_⟩ | refine svu ⟨fun u => ?_⟩ | (refine svg (fun hg => ?_) (fun hg => ?_) <;> try (exfalso; first | omega | contradiction)) | (refine svc (fun hc => ?_) (fun hc => ?_) <;> try (exfalso; first | omega | contradiction)) | refine sv2 ?_ | refine svh (fun hb => ?_) (fun hb => ?_) | refine svb (fun b => ?_) | refine sva ?_ | refine sv3 ?_))
  refine S.call ?_; refine (c3 _).mono ?_; rintro r h' ⟨rfl, hh⟩; subst hh
  (repeat' (first | (refine iS ?_; refine iMu ?_; refine S.mapU ?_) | refine svz ⟨fun b hq => ?_⟩ | refine sv1 ?_ | refine svs ⟨?_⟩ | refine svu ⟨fun u => ?_⟩ | (refine svg (fun hg => ?_) (fun hg => ?_) <;> try (exfalso; first | omega | contradiction)) | (refine svc (fun hc => ?_) (fun hc => ?_) <;> try (exfalso; first | omega | contradiction)) | refine sv2 ?_ | refine svh (fun hb => ?_) (fun hb => ?_) | refine svb (fun b => ?_) | refine sva ?_ | refine sv3 ?_))
  refine iS ?_
  refine step_v (pur_neqstr_f rfl rfl rfl) rfl ?_
  (repeat' (first | (refine iS ?_; refine iMu ?_; refine S.mapU ?_) | refine svz ⟨fun b hq => ?_⟩ | refine sv1 ?_ | refine svs ⟨?_⟩ | refine svu ⟨fun u => ?_⟩ | (refine svg (fun hg => ?_) (fun hg => ?_) <;> try (exfalso; first | omega | contradiction)) | (refine svc (fun hc => ?_) (fun hc => ?_) <;> try (exfalso; first | omega | contradiction)) | refine sv2 ?_ | refine svh (fun hb => ?_) (fun hb => ?_) | refine svb (fun b => ?_) | refine sva ?_ | refine sv3 ?_))
  refine S.call ?_; refine (c4 _).mono ?_; rintro r h' ⟨rfl, hh⟩; subst hh
  (repeat' (first | (refine iS ?_; refine iMu ?_; refine S.mapU ?_) | refine svz ⟨fun b hq => ?_⟩ | refine sv1 ?_ | refine svs ⟨?_⟩ | refine svu ⟨fun u => ?_⟩ | (refine svg (fun hg => ?_) (fun hg => ?_) <;> try (exfalso; first | omega | contradiction)) | (refine svc (fun hc => ?_) (fun hc => ?_) <;> try (exfalso; first | omega | contradiction)) | refine sv2 ?_ | refine svh (fun hb => ?_) (fun hb => ?_) | refine svb (fun b => ?_) | refine sva ?_ | refine sv3 ?_))
  revert b; intro b12
  refine W.loop (J := fun i : Nat => ⟨100, [(15, .val (.int .i64 ((i : Nat)))), (14, .val (.int .i64 (cntR 0 0 V (hasR R) i 0))), (13, .val (.int .i64 (0))), (12, .val (.pointer (some ⟨b12, 0, none⟩))), (7, .ro 4 (P.map RC.enc)), (1, .val (.int .i64 ((V : Nat)))), (2, .val (.int .i64 ((G : Nat))))], [.box b12 [.ro 4 (R.map RC.enc)] 29]⟩)
    (Φ := fun i => i ≤ G) (μ := fun i => G - i) 0 lee (Nat.zero_le _) ?_
  intro i hi
  rcases Nat.lt_or_ge i G with hil | hig
  · have nx : Hold _ := ⟨cntR_i (x0 := 0) (y0 := 0) (w := V) (p := hasR R) (i := i)⟩
    (repeat' (first | (refine iS ?_; refine iMu ?_; refine S.mapU ?_) | refine svz ⟨fun b hq => ?_⟩ | refine sv1 ?_ | refine svs ⟨?_⟩ | refine svu ⟨fun u => ?_⟩ | (refine svg (fun hg => ?_) (fun hg => ?_) <;> try (exfalso; first | omega | contradiction)) | (refine svc (fun hc => ?_) (fun hc => ?_) <;> try (exfalso; first | omega | contradiction)) | refine sv2 ?_ | refine svh (fun hb => ?_) (fun hb => ?_) | refine svb (fun b => ?_) | refine sva ?_ | refine sv3 ?_))
    refine W.loop (J := fun j : Nat => ⟨100, [(16, .val (.int .i64 ((j : Nat)))), (15, .val (.int .i64 ((i : Nat)))), (14, .val (.int .i64 (cntR 0 0 V (hasR R) i j))), (13, .val (.int .i64 (0))), (12, .val (.pointer (some ⟨b12, 0, none⟩))), (7, .ro 4 (P.map RC.enc)), (1, .val (.int .i64 ((V : Nat)))), (2, .val (.int .i64 ((G : Nat))))], [.box b12 [.ro 4 (R.map RC.enc)] 29]⟩)
      (Φ := fun j => j ≤ V) (μ := fun j => V - j) 0 lee (Nat.zero_le _) ?_
    intro j hj
    rcases Nat.lt_or_ge j V with hjl | hjg
    · have t1 := cntR_in (x0 := 0) (y0 := 0) (w := V) (p := hasR R) (i := i) (j := j)
      have t2 : i * V ≤ 20 * 20 := Nat.mul_le_mul (by omega) (by omega)
      have s1 := cntR_j (x0 := 0) (y0 := 0) (w := V) (p := hasR R) (i := i) (j := j)
      rw [Int.zero_add, Int.zero_add] at s1
      have h1' := h1 (j : Int) (i : Int)
      have h2' := h2 (j : Int) (i : Int)
      have e := hR (j : Int) (i : Int)
      rw [decide_eq_true ⟨⟨by omega, by omega⟩, by omega, by omega⟩, Bool.and_true] at e
      rw [← e] at h2'
      clear e hR h1 h2
      generalize hasR R (j : Int) (i : Int) = v at *
      generalize cntR 0 0 V (hasR R) i j = S0 at *
      have s1 : Hold _ := ⟨s1⟩
      cases v with
      | false =>
        (repeat' (first | (refine iS ?_; refine iMu ?_; refine S.mapU ?_) | refine svz ⟨fun b hq => ?_⟩ | refine sv1 ?_ | refine svs ⟨?_⟩ | refine svu ⟨fun u => ?_⟩ | (refine svg (fun hg => ?_) (fun hg => ?_) <;> try (exfalso; first | omega | contradiction)) | (refine svc (fun hc => ?_) (fun hc => ?_) <;> try (exfalso; first | omega | contradiction)) | refine sv2 ?_ | refine svh (fun hb => ?_) (fun hb => ?_) | refine svb (fun b => ?_) | refine sva ?_ | refine sv3 ?_))
        refine R2.C (h2' _) ?_
        (repeat' (first | (refine iS ?_; refine iMu ?_; refine S.mapU ?_) | refine svz ⟨fun b hq => ?_⟩ | refine sv1 ?_ | refine svs ⟨?_⟩ | refine svu ⟨fun u => ?_⟩ | (refine svg (fun hg => ?_) (fun hg => ?_) <;> try (exfalso; first | omega | contradiction)) | (refine svc (fun hc => ?_) (fun hc => ?_) <;> try (exfalso; first | omega | contradiction)) | refine sv2 ?_ | refine svh (fun hb => ?_) (fun hb => ?_) | refine svb (fun b => ?_) | refine sva ?_ | refine sv3 ?_))
        refine R2.C (h1' _) ?_
        (repeat' (first | (refine iS ?_; refine iMu ?_; refine S.mapU ?_) | refine svz ⟨fun b hq => ?_⟩ | refine sv1 ?_ | refine svs ⟨?_⟩ | refine svu ⟨fun u => ?_⟩ | (refine svg (fun hg => ?_) (fun hg => ?_) <;> try (exfalso; first | omega | contradiction)) | (refine svc (fun hc => ?_) (fun hc => ?_) <;> try (exfalso; first | omega | contradiction)) | refine sv2 ?_ | refine svh (fun hb => ?_) (fun hb => ?_) | refine svb (fun b => ?_) | refine sva ?_ | refine sv3 ?_))
        refine S.call ?_; refine (h1' _).mono ?_; rintro r h' ⟨rfl, hh⟩; subst hh
        (repeat' (first | (refine iS ?_; refine iMu ?_; refine S.mapU ?_) | refine svz ⟨fun b hq => ?_⟩ | refine sv1 ?_ | refine svs ⟨?_⟩ | refine svu ⟨fun u => ?_⟩ | (refine svg (fun hg => ?_) (fun hg => ?_) <;> try (exfalso; first | omega | contradiction)) | (refine svc (fun hc => ?_) (fun hc => ?_) <;> try (exfalso; first | omega | contradiction)) | refine sv2 ?_ | refine svh (fun hb => ?_) (fun hb => ?_) | refine svb (fun b => ?_) | refine sva ?_ | refine sv3 ?_))
        exact ⟨j + 1, hjl, by rw [s1.out, show ind false = 0 from rfl, Int.add_zero]; exact lee, by omega⟩
      | true =>
        (repeat' (first | (refine iS ?_; refine iMu ?_; refine S.mapU ?_) | refine svz ⟨fun b hq => ?_⟩ | refine sv1 ?_ | refine svs ⟨?_⟩ | refine svu ⟨fun u => ?_⟩ | (refine svg (fun hg => ?_) (fun hg => ?_) <;> try (exfalso; first | omega | contradiction)) | (refine svc (fun hc => ?_) (fun hc => ?_) <;> try (exfalso; first | omega | contradiction)) | refine sv2 ?_ | refine svh (fun hb => ?_) (fun hb => ?_) | refine svb (fun b => ?_) | refine sva ?_ | refine sv3 ?_))
        refine R2.C (h2' _) ?_
        (repeat' (first | (refine iS ?_; refine iMu ?_; refine S.mapU ?_) | refine svz ⟨fun b hq => ?_⟩ | refine sv1 ?_ | refine svs ⟨?_⟩ | refine svu ⟨fun u => ?_⟩ | (refine svg (fun hg => ?_) (fun hg => ?_) <;> try (exfalso; first | omega | contradiction)) | (refine svc (fun hc => ?_) (fun hc => ?_) <;> try (exfalso; first | omega | contradiction)) | refine sv2 ?_ | refine svh (fun hb => ?_) (fun hb => ?_) | refine svb (fun b => ?_) | refine sva ?_ | refine sv3 ?_))
        refine R2.C (h1' _) ?_
        (repeat' (first | (refine iS ?_; refine iMu ?_; refine S.mapU ?_) | refine svz ⟨fun b hq => ?_⟩ | refine sv1 ?_ | refine svs ⟨?_⟩ | refine svu ⟨fun u => ?_⟩ | (refine svg (fun hg => ?_) (fun hg => ?_) <;> try (exfalso; first | omega | contradiction)) | (refine svc (fun hc => ?_) (fun hc => ?_) <;> try (exfalso; first | omega | contradiction)) | refine sv2 ?_ | refine svh (fun hb => ?_) (fun hb => ?_) | refine svb (fun b => ?_) | refine sva ?_ | refine sv3 ?_))
        refine S.call ?_; refine (h1' _).mono ?_; rintro r h' ⟨rfl, hh⟩; subst hh
        (repeat' (first | (refine iS ?_; refine iMu ?_; refine S.mapU ?_) | refine svz ⟨fun b hq => ?_⟩ | refine sv1 ?_ | refine svs ⟨?_⟩ | refine svu ⟨fun u => ?_⟩ | (refine svg (fun hg => ?_) (fun hg => ?_) <;> try (exfalso; first | omega | contradiction)) | (refine svc (fun hc => ?_) (fun hc => ?_) <;> try (exfalso; first | omega | contradiction)) | refine sv2 ?_ | refine svh (fun hb => ?_) (fun hb => ?_) | refine svb (fun b => ?_) | refine sva ?_ | refine sv3 ?_))
        exact ⟨j + 1, hjl, by rw [s1.out, show ind true = 1 from rfl]; exact lee, by omega⟩
    · have e : j = V := by omega
      subst e
      (repeat' (first | (refine iS ?_; refine iMu ?_; refine S.mapU ?_) | refine svz ⟨fun b hq => ?_⟩ | refine sv1 ?_ | refine svs ⟨?_⟩ | refine svu ⟨fun u => ?_⟩ | (refine svg (fun hg => ?_) (fun hg => ?_) <;> try (exfalso; first | omega | contradiction)) | (refine svc (fun hc => ?_) (fun hc => ?_) <;> try (exfalso; first | omega | contradiction)) | refine sv2 ?_ | refine svh (fun hb => ?_) (fun hb => ?_) | refine svb (fun b => ?_) | refine sva ?_ | refine sv3 ?_))
      exact ⟨i + 1, hil, by rw [nx.out]; exact lee, by omega⟩
  · have e : i = G := by omega
    subst e
    (repeat' (first | (refine iS ?_; refine iMu ?_; refine S.mapU ?_) | refine svz ⟨fun b hq => ?_⟩ | refine sv1 ?_ | refine svs ⟨?_⟩ | refine svu ⟨fun u => ?_⟩ | (refine svg (fun hg => ?_) (fun hg => ?_) <;> try (exfalso; first | omega | contradiction)) | (refine svc (fun hc => ?_) (fun hc => ?_) <;> try (exfalso; first | omega | contradiction)) | refine sv2 ?_ | refine svh (fun hb => ?_) (fun hb => ?_) | refine svb (fun b => ?_) | refine sva ?_ | refine sv3 ?_))
    refine S.call ?_; refine (ar _).mono ?_; rintro r h' ⟨rfl, hh⟩; subst hh
    (repeat' (first | (refine iS ?_; refine iMu ?_; refine S.mapU ?_) | refine svz ⟨fun b hq => ?_⟩ | refine sv1 ?_ | refine svs ⟨?_⟩ | refine svu ⟨fun u => ?_⟩ | (refine svg (fun hg => ?_) (fun hg => ?_) <;> try (exfalso; first | omega | contradiction)) | (refine svc (fun hc => ?_) (fun hc => ?_) <;> try (exfalso; first | omega | contradiction)) | refine sv2 ?_ | refine svh (fun hb => ?_) (fun hb => ?_) | refine svb (fun b => ?_) | refine sva ?_ | refine sv3 ?_))
    refine S.call ?_; refine (awake_c _).mono ?_; rintro r h' ⟨rfl, hh⟩; subst hh
    (repeat' (first | (refine iS ?_; refine iMu ?_; refine S.mapU ?_) | refine svz ⟨fun b hq => ?_⟩ | refine sv1 ?_ | refine svs ⟨?_⟩ | refine svu ⟨fun u => ?_⟩ | (refine svg (fun hg => ?_) (fun hg => ?_) <;> try (exfalso; first | omega | contradiction)) | (refine svc (fun hc => ?_) (fun hc => ?_) <;> try (exfalso; first | omega | contradiction)) | refine sv2 ?_ | refine svh (fun hb => ?_) (fun hb => ?_) | refine svb (fun b => ?_) | refine sva ?_ | refine sv3 ?_))
    exact fin_r (h' := _) rfl
theorem sq_fit {N : Nat} {x : AV} (h : FitE N (.fld 1 (.int .u8) (.fld 1 (.int .u8) (.fld 1 (.int .u8) (.fld 1 (.int .u8) (.nil))))) x) : ∃ q : Sq, x = q.enc ∧ q.ok := by
  obtain ⟨_, rfl, _, _, rfl, _, ⟨a, rfl, ha⟩, _, _, rfl, _, ⟨b, rfl, hb⟩, _, _, rfl, _, ⟨c, rfl, hc⟩, _, _, rfl, _, ⟨d, rfl, hd⟩, rfl⟩ := h
  exact ⟨⟨a, b, c, d⟩, rfl, wf_u8 ha, wf_u8 hb, wf_u8 hc, wf_u8 hd⟩
theorem maps_row : ∀ l, FitAll maxLen [.sl 4 (.fld 1 (.int .u8) (.fld 1 (.int .u8) (.fld 1 (.int .u8) (.fld 1 (.int .u8) (.nil))))), .int .i64, .int .i64] l → ACalls Try.prog 8 l [] (fun r h' => r = .val (.bool true)) := by
  rintro l ⟨x, _, rfl, hx, y, _, rfl, hy, z, _, rfl, hz, rfl⟩
  obtain ⟨ls, rfl, hlen, hl⟩ := fit_sl (f := Sq.enc) hx (fun y hy => sq_fit hy)
  obtain ⟨w, rfl, _⟩ := fit_int hy
  obtain ⟨g, rfl, _⟩ := fit_int hz
  exact maps_c ls w g hl hlen
end Go.Proofs.Ytdknjjgmmmmfjaa
