/- ShapeBits. No condition. -/
import Derived.Test.YtdknjjgmmmmfjaaE22
import Derived.Test.YtdknjjgmmmmfjaaE23
import Derived.Test.YtdknjjgmmmmfjaaVR4
import Derived.Test.YtdknjjgmmmmfjaaB17
namespace Go.Proofs.Ytdknjjgmmmmfjaa
open Go Go.VM
attribute [local irreducible] PurV Pur Step RL W D ACalls Then InBlock Fini
set_option linter.unusedVariables false
set_option linter.unusedSimpArgs false
set_option maxHeartbeats 20000000
theorem rof_ok (w : Int) (G st : Nat) (s : ByteArray) (h : Heap) (hw : 1 ≤ w ∧ w ≤ 128) (hg : 1 ≤ G ∧ G ≤ 128) (hst : (w + 7) / 8 = (st : Nat)) (hl : s.size = st * G) (hs : s.size ≤ 3000) (hall : ∀ p ∈ onesP s st (8 * s.size), (p.1 : Int) < w) :
    ACalls Try.prog 23 [.val (.int .i64 (w)), .val (.int .i64 ((G : Nat))), .val (.string s)] h (fun r h' => r = .tup [.ro 4 (((onesP s st (8 * s.size)).map one1).map RC.enc), .val (.int .i64 (0))] ∧ h' = h) := by
  refine (rof_m w G st s h hw hg hst hl hs).frzo ?_
  rintro r h' (⟨_, v, rfl, rfl⟩ | ⟨⟨p, hp, hq⟩, rfl, rfl⟩)
  · exact .inr ⟨v, 4, _, _, .tup [.ro 4 (((onesP s st (8 * s.size)).map one1).map RC.enc), .val (.int .i64 (0))], h, .here, .tupc .hit (.tupc (.keep _) .tupn), rfl, rfl⟩
  · have := hall p hp; omega
theorem rof_form (w : Int) (G st : Nat) (s : ByteArray) (h : Heap) (hw : 1 ≤ w ∧ w ≤ 128) (hg : 1 ≤ G ∧ G ≤ 128) (hst : (w + 7) / 8 = (st : Nat)) (hl : s.size = st * G) (hs : s.size ≤ 3000) (hbad : ∃ p ∈ onesP s st (8 * s.size), w ≤ (p.1 : Int)) :
    ACalls Try.prog 23 [.val (.int .i64 (w)), .val (.int .i64 ((G : Nat))), .val (.string s)] h (fun r h' => r = .tup [.ro 4 [], .val (.int .i64 (2))] ∧ h' = h) := by
  refine ACalls.wk (Q := fun v h' => v = .tup [.val (.slice none 0 0), .val (.int .i64 (2))] ∧ h' = h) ?_ (by rintro v h' ⟨rfl, rfl⟩; exact ⟨_, (by (repeat (first | exact Wk.refl _ | exact Wk.nilr _ | exact Wk.nilm | apply Wk.aggc | apply Wk.tupc | exact Wk.aggn | exact Wk.tupn)); first | done | fail), rfl, rfl⟩)
  refine (rof_m w G st s h hw hg hst hl hs).mono ?_
  rintro r h' (⟨hall, v, rfl, rfl⟩ | ⟨_, rfl, rfl⟩)
  · obtain ⟨p, hp, hq⟩ := hbad
    have := hall p hp; omega
  · exact ⟨rfl, rfl⟩
theorem on_bd {s : ByteArray} {st : Nat} (hs : s.size ≤ 3000) (hst : 0 < st) : ∀ p ∈ onesP s st (8 * s.size), p.1 ≤ 100000 ∧ p.2 ≤ 100000 := onesP_bd (by omega) hst
theorem on_len {s : ByteArray} {st : Nat} (hs : s.size ≤ 3000) : (onesP s st (8 * s.size)).length ≤ 24000 := by have := onesP_len s st (8 * s.size); omega
theorem of_same {s : ByteArray} {st : Nat} (hs : s.size ≤ 3000) (hst : 0 < st) : ofF ((onesP s st (8 * s.size)).map one1) = ofF (listO (onesP s st (8 * s.size))) :=
  ofF_eq.2 fun x y => (listO_has (n := 24000) _ rfl (on_len hs) (by decide) (on_bd hs hst) x y).symm
theorem on_has {s : ByteArray} {st : Nat} (hs : s.size ≤ 3000) (hst : 0 < st) (x y : Int) : hasR (ofF (listO (onesP s st (8 * s.size)))) x y = true ↔ ∃ p ∈ onesP s st (8 * s.size), x = (p.1 : Nat) ∧ y = (p.2 : Nat) := by
  rw [has_ofF, listO_has (n := 24000) _ rfl (on_len hs) (by decide) (on_bd hs hst), ones_has (on_bd hs hst)]
theorem bits_back {w : Int} {G st : Nat} {s : ByteArray} (hst : 0 < st) (hl : s.size = st * G) (hs : s.size ≤ 3000) (hall : ∀ p ∈ onesP s st (8 * s.size), (p.1 : Int) < w) :
    strB (bytesF st G (fun x y => hasR (ofF (listO (onesP s st (8 * s.size)))) x y && decide ((0 ≤ x ∧ x < w) ∧ 0 ≤ y ∧ y < (G : Int)))) = s := by
  refine Eq.trans (congrArg strB ?_) (str_self s)
  unfold bytesF
  rw [← hl]
  refine List.map_congr_left fun i hi => ?_
  have hi := List.mem_range.1 hi
  rw [← byte_val (bt_lt s i)]
  unfold cellB
  refine byteP_congr fun k hk => ?_
  have e1 : 8 * st * (i / st) + (8 * (i % st) + k) = 8 * i + k := by
    have := Nat.div_add_mod i st
    rw [Nat.mul_assoc]
    generalize st * (i / st) = Z at *
    omega
  have hm : i % st < st := Nat.mod_lt _ hst
  have hx : 8 * (i % st) + k < 8 * st := by omega
  have hy : i / st < G := (Nat.div_lt_iff_lt_mul hst).2 (by rw [Nat.mul_comm, ← hl]; exact hi)
  have eb : bitP s (8 * i + k) = bt s i / 2 ^ k % 2 := by
    unfold bitP
    rw [Nat.mul_add_div (by decide), Nat.mul_add_mod, Nat.div_eq_of_lt hk, Nat.mod_eq_of_lt hk, Nat.add_zero]
  have key : hasR (ofF (listO (onesP s st (8 * s.size)))) ((8 * (i % st) + k : Nat) : Int) ((i / st : Nat) : Int) = (bt s i / 2 ^ k % 2 == 1) := by
    rw [Bool.eq_iff_iff, on_has hs hst, beq_iff_eq]
    constructor
    · rintro ⟨⟨a, b⟩, hp, h1, h2⟩
      dsimp only at h1 h2
      have h1 : a = 8 * (i % st) + k := by omega
      have h2 : b = i / st := by omega
      subst h1; subst h2
      have := ((ones_mem hx).1 hp).2
      rwa [e1, eb] at this
    · intro h1
      exact ⟨(8 * (i % st) + k, i / st), (ones_mem hx).2 (by rw [e1, eb]; exact ⟨by omega, h1⟩), rfl, rfl⟩
  show (hasR (ofF (listO (onesP s st (8 * s.size)))) ((8 * (i % st) + k : Nat) : Int) ((i / st : Nat) : Int) && decide _) = _
  rw [key]
  cases hb : (bt s i / 2 ^ k % 2 == 1) with
  | false => rfl
  | true =>
    rw [hb] at key
    obtain ⟨p, hp, h1, _⟩ := (on_has hs hst _ _).1 key
    have := hall p hp
    rw [decide_eq_true ⟨⟨by omega, by omega⟩, by omega, by omega⟩]
    rfl
theorem on_bx {w : Int} {G st : Nat} {s : ByteArray} (hst : 0 < st) (hw : w ≤ 128) (hG : G ≤ 128) (hl : s.size = st * G) (hs : s.size ≤ 3000) (hall : ∀ p ∈ onesP s st (8 * s.size), (p.1 : Int) < w) : Bx 0 128 (ofF (listO (onesP s st (8 * s.size)))) := .of_has (can_of _) fun x y h => by
  obtain ⟨p, hp, h1, h2⟩ := (on_has hs hst x y).1 h
  have h3 := hall p hp
  obtain ⟨q, hq, rfl, _⟩ := onesP_mem hp
  have := pt_row (st := st) (q := q) (h := G) (by rw [← hl]; exact hq) hst
  omega
theorem jok_w {w : Int} {G : Nat} {A : List RC} (bA : Bx 0 128 A) : JOk A (ofF [⟨0, 0, w, (G : Int)⟩]) := by
  have h1 := of_one (⟨0, 0, w, (G : Int)⟩ : RC)
  have hl := bA.len
  have y1 := bA.ysJ1 h1
  have x1 := bA.xsJ1 h1
  exact ⟨bA.can, can_of _, by omega, by omega, by omega, fun y => by have := x1 y; omega⟩
/-- What both answer. -/
theorem both (w g : Int) (s : ByteArray) (hs : s.size ≤ 400) : ∃ (R l : List RC) (k : Int),
    (∀ h, ACalls Try.prog 22 [.val (.int .i64 (w)), .val (.int .i64 (g)), .val (.string s)] h (fun r h' => r = .tup [regE R, .val (.int .i64 (k))] ∧ h' = h)) ∧
    (∀ h, ACalls Try.prog 23 [.val (.int .i64 (w)), .val (.int .i64 (g)), .val (.string s)] h (fun r h' => r = .tup [.ro 4 (l.map RC.enc), .val (.int .i64 (k))] ∧ h' = h)) ∧
    (l.length ≤ 30000 ∧ (∀ r ∈ l, r.ok) ∧ ofF l = R ∧ R.length ≤ 100000) ∧
    (k ≠ 0 ∨ (k = 0 ∧ ∀ h, ACalls Try.prog 27 [regE R, .val (.int .i64 (w)), .val (.int .i64 (g))] h (fun r h' => r = .tup [.val (.string s), .val (.int .i64 (0))] ∧ h' = h))) := by
  have hnil : ([] : List RC).length ≤ 30000 ∧ (∀ r ∈ ([] : List RC), r.ok) ∧ ofF [] = [] ∧ ([] : List RC).length ≤ 100000 := ⟨by decide, by simp, can_nil, by decide⟩
  by_cases hn : (w < 1 ∨ 128 < w) ∨ (g < 1 ∨ 128 < g)
  · exact ⟨[], [], 17, fun h => sof_size w g s h hn, fun h => rof_size w g s h hn, hnil, .inl (by decide)⟩
  have hw : 1 ≤ w ∧ w ≤ 128 := by omega
  have hg : 1 ≤ g ∧ g ≤ 128 := by omega
  obtain ⟨G, rfl⟩ : ∃ G : Nat, g = (G : Int) := ⟨g.toNat, by omega⟩
  obtain ⟨st, hst⟩ : ∃ st : Nat, (w + 7) / 8 = (st : Int) := ⟨((w + 7) / 8).toNat, by omega⟩
  have hst1 : 1 ≤ st ∧ st ≤ 16 := by omega
  have hm : (w + 7) / 8 * (G : Int) = ((st * G : Nat) : Int) := by rw [hst]; push_cast; rfl
  have hm2 : st * G ≤ 16 * 128 := Nat.mul_le_mul hst1.2 (by omega)
  have hb : 0 ≤ (w + 7) / 8 * (G : Int) ∧ (w + 7) / 8 * (G : Int) ≤ 100000 := by rw [hm]; omega
  rcases (by omega : s.size < st * G ∨ st * G < s.size ∨ s.size = st * G) with c | c | c
  · exact ⟨[], [], 3, fun h => sof_short w G s h hw hg hb (by omega) (by rw [hm]; omega), fun h => rof_short w G s h hw hg hb (by omega) (by rw [hm]; omega), hnil, .inl (by decide)⟩
  · exact ⟨[], [], 4, fun h => sof_long w G s h hw hg hb (by omega) (by rw [hm]; omega), fun h => rof_long w G s h hw hg hb (by omega) (by rw [hm]; omega), hnil, .inl (by decide)⟩
  by_cases hall : ∀ p ∈ onesP s st (8 * s.size), (p.1 : Int) < w
  · have bx := on_bx (w := w) (G := G) (by omega) hw.2 (by omega) c (by omega) hall
    refine ⟨ofF (listO (onesP s st (8 * s.size))), (onesP s st (8 * s.size)).map one1, 0, fun h => sof_c w G st s h hw hg hst hb (by rw [hm]; omega) (by omega) hall, fun h => rof_ok w G st s h hw (by omega) hst c (by omega) hall, ⟨?_, ?_, of_same (by omega) (by omega), ?_⟩, .inr ⟨rfl, fun h => ?_⟩⟩
    · rw [List.length_map]; have := on_len (s := s) (st := st) (by omega); omega
    · intro r hr
      obtain ⟨p, hp, rfl⟩ := List.mem_map.1 hr
      have := on_bd (s := s) (st := st) (by omega) (by omega) p hp
      unfold one1
      constructor <;> (unfold I64; dsimp only; omega)
    · have := bx.len; omega
    · have := sbits_c (ofF (listO (onesP s st (8 * s.size)))) w G st h hw (by omega) hst (jok_w bx)
      rwa [bits_back (by omega) c (by omega) hall] at this
  · have hbad : ∃ p ∈ onesP s st (8 * s.size), w ≤ (p.1 : Int) := by
      refine Decidable.byContradiction fun q => hall fun p hp => ?_
      rcases Int.lt_or_le (p.1 : Int) w with g | g
      · exact g
      · exact absurd ⟨p, hp, g⟩ q
    exact ⟨[], [], 2, fun h => sof_form w G st s h hw hg hst hb (by rw [hm]; omega) (by omega) hbad, fun h => rof_form w G st s h hw (by omega) hst c (by omega) hbad, hnil, .inl (by decide)⟩
set_option maxRecDepth 100000 in
theorem bits_c (w g : Int) (s : ByteArray) (hsz : s.size ≤ maxLen) : ACalls Try.prog 7 [.val (.int .i64 (w)), .val (.int .i64 (g)), .val (.string s)] [] (fun r h' => r = .val (.bool true)) := by
  unfold maxLen at hsz
  by_cases hs : 400 < s.size
  · refine ACalls.intro Try.func7 rfl Try.ntmps7 Try.results7 (Nat.le_of_ble_eq_true rfl) ?_
    (repeat' (first | (refine iS ?_; refine iMu ?_; refine S.mapU ?_) | refine svz ⟨fun b hq => ?_⟩ | refine sv1 ?_ | refine svs ⟨?_⟩ | refine svu ⟨fun u => ?_⟩ | (refine svg (fun hg => ?_) (fun hg => ?_) <;> try (exfalso; first | omega | contradiction)) | (refine svc (fun hc => ?_) (fun hc => ?_) <;> try (exfalso; first | omega | contradiction)) | refine sv2 ?_ | refine svh (fun hb => ?_) (fun hb => ?_) | refine svb (fun b => ?_) | refine sva ?_ | refine sv3 ?_))
    refine S.call ?_; refine (awake_c _).mono ?_; rintro r h' ⟨rfl, hh⟩; subst hh
    (repeat' (first | (refine iS ?_; refine iMu ?_; refine S.mapU ?_) | refine svz ⟨fun b hq => ?_⟩ | refine sv1 ?_ | refine svs ⟨?_⟩ | refine svu ⟨fun u => ?_⟩ | (refine svg (fun hg => ?_) (fun hg => ?_) <;> try (exfalso; first | omega | contradiction)) | (refine svc (fun hc => ?_) (fun hc => ?_) <;> try (exfalso; first | omega | contradiction)) | refine sv2 ?_ | refine svh (fun hb => ?_) (fun hb => ?_) | refine svb (fun b => ?_) | refine sva ?_ | refine sv3 ?_))
    exact fin_r (h' := _) rfl
  obtain ⟨R, l, k, c1, c2, ⟨hl, okl, hof, hR⟩, c3⟩ := both w g s (by omega)
  have r1 := fun h => rects_c R h (by omega)
  have r2 := fun h => rrects_c l h hl okl
  rw [rectsF_ofF, hof] at r2
  have sm := fun h => rsame_c R R h
  rw [decide_eq_true rfl] at sm
  clear okl hof hl
  unfold regE at *
  rcases c3 with hk | ⟨rfl, c3⟩
  · refine ACalls.intro Try.func7 rfl Try.ntmps7 Try.results7 (Nat.le_of_ble_eq_true rfl) ?_
    (repeat' (first | (refine iS ?_; refine iMu ?_; refine S.mapU ?_) | refine svz ⟨fun b hq => ?_⟩ | refine sv1 ?_ | refine svs ⟨?_⟩ | refine svu ⟨fun u => ?_⟩ | (refine svg (fun hg => ?_) (fun hg => ?_) <;> try (exfalso; first | omega | contradiction)) | (refine svc (fun hc => ?_) (fun hc => ?_) <;> try (exfalso; first | omega | contradiction)) | refine sv2 ?_ | refine svh (fun hb => ?_) (fun hb => ?_) | refine svb (fun b => ?_) | refine sva ?_ | refine sv3 ?_))
    refine S.call ?_; refine (c1 _).mono ?_; rintro r h' ⟨rfl, hh⟩; subst hh
    (repeat' (first | (refine iS ?_; refine iMu ?_; refine S.mapU ?_) | refine svz ⟨fun b hq => ?_⟩ | refine sv1 ?_ | refine svs ⟨?_⟩ | refine svu ⟨fun u => ?_⟩ | (refine svg (fun hg => ?_) (fun hg => ?_) <;> try (exfalso; first | omega | contradiction)) | (refine svc (fun hc => ?_) (fun hc => ?_) <;> try (exfalso; first | omega | contradiction)) | refine sv2 ?_ | refine svh (fun hb => ?_) (fun hb => ?_) | refine svb (fun b => ?_) | refine sva ?_ | refine sv3 ?_))
    refine S.call ?_; refine (c2 _).mono ?_; rintro r h' ⟨rfl, hh⟩; subst hh
    (repeat' (first | (refine iS ?_; refine iMu ?_; refine S.mapU ?_) | refine svz ⟨fun b hq => ?_⟩ | refine sv1 ?_ | refine svs ⟨?_⟩ | refine svu ⟨fun u => ?_⟩ | (refine svg (fun hg => ?_) (fun hg => ?_) <;> try (exfalso; first | omega | contradiction)) | (refine svc (fun hc => ?_) (fun hc => ?_) <;> try (exfalso; first | omega | contradiction)) | refine sv2 ?_ | refine svh (fun hb => ?_) (fun hb => ?_) | refine svb (fun b => ?_) | refine sva ?_ | refine sv3 ?_))
    refine S.call ?_; refine (r1 _).mono ?_; rintro r h' ⟨rfl, hh⟩; subst hh
    (repeat' (first | (refine iS ?_; refine iMu ?_; refine S.mapU ?_) | refine svz ⟨fun b hq => ?_⟩ | refine sv1 ?_ | refine svs ⟨?_⟩ | refine svu ⟨fun u => ?_⟩ | (refine svg (fun hg => ?_) (fun hg => ?_) <;> try (exfalso; first | omega | contradiction)) | (refine svc (fun hc => ?_) (fun hc => ?_) <;> try (exfalso; first | omega | contradiction)) | refine sv2 ?_ | refine svh (fun hb => ?_) (fun hb => ?_) | refine svb (fun b => ?_) | refine sva ?_ | refine sv3 ?_))
    refine S.call ?_; refine (r2 _).mono ?_; rintro r h' ⟨rfl, hh⟩; subst hh
    (repeat' (first | (refine iS ?_; refine iMu ?_; refine S.mapU ?_) | refine svz ⟨fun b hq => ?_⟩ | refine sv1 ?_ | refine svs ⟨?_⟩ | refine svu ⟨fun u => ?_⟩ | (refine svg (fun hg => ?_) (fun hg => ?_) <;> try (exfalso; first | omega | contradiction)) | (refine svc (fun hc => ?_) (fun hc => ?_) <;> try (exfalso; first | omega | contradiction)) | refine sv2 ?_ | refine svh (fun hb => ?_) (fun hb => ?_) | refine svb (fun b => ?_) | refine sva ?_ | refine sv3 ?_))
    refine S.call ?_; refine (sm _).mono ?_; rintro r h' ⟨rfl, hh⟩; subst hh
    (repeat' (first | (refine iS ?_; refine iMu ?_; refine S.mapU ?_) | refine svz ⟨fun b hq => ?_⟩ | refine sv1 ?_ | refine svs ⟨?_⟩ | refine svu ⟨fun u => ?_⟩ | (refine svg (fun hg => ?_) (fun hg => ?_) <;> try (exfalso; first | omega | contradiction)) | (refine svc (fun hc => ?_) (fun hc => ?_) <;> try (exfalso; first | omega | contradiction)) | refine sv2 ?_ | refine svh (fun hb => ?_) (fun hb => ?_) | refine svb (fun b => ?_) | refine sva ?_ | refine sv3 ?_))
    refine S.call ?_; refine (awake_c _).mono ?_; rintro r h' ⟨rfl, hh⟩; subst hh
    (repeat' (first | (refine iS ?_; refine iMu ?_; refine S.mapU ?_) | refine svz ⟨fun b hq => ?_⟩ | refine sv1 ?_ | refine svs ⟨?_⟩ | refine svu ⟨fun u => ?_⟩ | (refine svg (fun hg => ?_) (fun hg => ?_) <;> try (exfalso; first | omega | contradiction)) | (refine svc (fun hc => ?_) (fun hc => ?_) <;> try (exfalso; first | omega | contradiction)) | refine sv2 ?_ | refine svh (fun hb => ?_) (fun hb => ?_) | refine svb (fun b => ?_) | refine sva ?_ | refine sv3 ?_))
    exact fin_r (h' := _) rfl
  · refine ACalls.intro Try.func7 rfl Try.ntmps7 Try.results7 (Nat.le_of_ble_eq_true rfl) ?_
    (repeat' (first | (refine iS ?_; refine iMu ?_; refine S.mapU ?_) | refine svz ⟨fun b hq => ?_⟩ | refine sv1 ?_ | refine svs ⟨?_⟩ | refine svu ⟨fun u => ?_⟩ | (refine svg (fun hg => ?_) (fun hg => ?_) <;> try (exfalso; first | omega | contradiction)) | (refine svc (fun hc => ?_) (fun hc => ?_) <;> try (exfalso; first | omega | contradiction)) | refine sv2 ?_ | refine svh (fun hb => ?_) (fun hb => ?_) | refine svb (fun b => ?_) | refine sva ?_ | refine sv3 ?_))
    refine S.call ?_; refine (c1 _).mono ?_; rintro r h' ⟨rfl, hh⟩; subst hh
    (repeat' (first | (refine iS ?_; refine iMu ?_; refine S.mapU ?_) | refine svz ⟨fun b hq => ?_⟩ | refine sv1 ?_ | refine svs ⟨?_⟩ | refine svu ⟨fun u => ?_⟩ | (refine svg (fun hg => ?_) (fun hg => ?_) <;> try (exfalso; first | omega | contradiction)) | (refine svc (fun hc => ?_) (fun hc => ?_) <;> try (exfalso; first | omega | contradiction)) | refine sv2 ?_ | refine svh (fun hb => ?_) (fun hb => ?_) | refine svb (fun b => ?_) | refine sva ?_ | refine sv3 ?_))
    refine S.call ?_; refine (c2 _).mono ?_; rintro r h' ⟨rfl, hh⟩; subst hh
    (repeat' (first | (refine iS ?_; refine iMu ?_; refine S.mapU ?_) | refine svz ⟨fun b hq => ?_⟩ | refine sv1 ?_ | refine svs ⟨?_⟩ | refine svu ⟨fun u => ?_⟩ | (refine svg (fun hg => ?_) (fun hg => ?_) <;> try (exfalso; first | omega | contradiction)) | (refine svc (fun hc => ?_) (fun hc => ?_) <;> try (exfalso; first | omega | contradiction)) | refine sv2 ?_ | refine svh (fun hb => ?_) (fun hb => ?_) | refine svb (fun b => ?_) | refine sva ?_ | refine sv3 ?_))
    refine S.call ?_; refine (r1 _).mono ?_; rintro r h' ⟨rfl, hh⟩; subst hh
    (repeat' (first | (refine iS ?_; refine iMu ?_; refine S.mapU ?_) | refine svz ⟨fun b hq => ?_⟩ | refine sv1 ?_ | refine svs ⟨?_⟩ | refine svu ⟨fun u => ?_⟩ | (refine svg (fun hg => ?_) (fun hg => ?_) <;> try (exfalso; first | omega | contradiction)) | (refine svc (fun hc => ?_) (fun hc => ?_) <;> try (exfalso; first | omega | contradiction)) | refine sv2 ?_ | refine svh (fun hb => ?_) (fun hb => ?_) | refine svb (fun b => ?_) | refine sva ?_ | refine sv3 ?_))
    refine S.call ?_; refine (r2 _).mono ?_; rintro r h' ⟨rfl, hh⟩; subst hh
    (repeat' (first | (refine iS ?_; refine iMu ?_; refine S.mapU ?_) | refine svz ⟨fun b hq => ?_⟩ | refine sv1 ?_ | refine svs ⟨?_⟩ | refine svu ⟨fun u => ?_⟩ | (refine svg (fun hg => ?_) (fun hg => ?_) <;> try (exfalso; first | omega | contradiction)) | (refine svc (fun hc => ?_) (fun hc => ?_) <;> try (exfalso; first | omega | contradiction)) | refine sv2 ?_ | refine svh (fun hb => ?_) (fun hb => ?_) | refine svb (fun b => ?_) | refine sva ?_ | refine sv3 ?_))
    refine S.call ?_; refine (sm _).mono ?_; rintro r h' ⟨rfl, hh⟩; subst hh
    (repeat' (first | (refine iS ?_; refine iMu ?_; refine S.mapU ?_) | refine svz ⟨fun b hq => ?_⟩ | refine sv1 ?_ | refine svs ⟨?_⟩ | refine svu ⟨fun u => ?_⟩ | (refine svg (fun hg => ?_) (fun hg => ?_) <;> try (exfalso; first | omega | contradiction)) | (refine svc (fun hc => ?_) (fun hc => ?_) <;> try (exfalso; first | omega | contradiction)) | refine sv2 ?_ | refine svh (fun hb => ?_) (fun hb => ?_) | refine svb (fun b => ?_) | refine sva ?_ | refine sv3 ?_))
    refine S.call ?_; refine (c3 _).mono ?_; rintro r h' ⟨rfl, hh⟩; subst hh
    (repeat' (first | (refine iS ?_; refine iMu ?_; refine S.mapU ?_) | refine svz ⟨fun b hq => ?_⟩ | refine sv1 ?_ | refine svs ⟨?_⟩ | refine svu ⟨fun u => ?_⟩ | (refine svg (fun hg => ?_) (fun hg => ?_) <;> try (exfalso; first | omega | contradiction)) | (refine svc (fun hc => ?_) (fun hc => ?_) <;> try (exfalso; first | omega | contradiction)) | refine sv2 ?_ | refine svh (fun hb => ?_) (fun hb => ?_) | refine svb (fun b => ?_) | refine sva ?_ | refine sv3 ?_))
    refine iS ?_
    refine step_v (pur_eqstr_t rfl rfl rfl) rfl ?_
    (repeat' (first | (refine iS ?_; refine iMu ?_; refine S.mapU ?_) | refine svz ⟨fun b hq => ?_⟩ | refine sv1 ?_ | refine svs ⟨?_⟩ | refine svu ⟨fun u => ?_⟩ | (refine svg (fun hg => ?_) (fun hg => ?_) <;> try (exfalso; first | omega | contradiction)) | (refine svc (fun hc => ?_) (fun hc => ?_) <;> try (exfalso; first | omega | contradiction)) | refine sv2 ?_ | refine svh (fun hb => ?_) (fun hb => ?_) | refine svb (fun b => ?_) | refine sva ?_ | refine sv3 ?_))
    refine S.call ?_; refine (awake_c _).mono ?_; rintro r h' ⟨rfl, hh⟩; subst hh
    (repeat' (first | (refine iS ?_; refine iMu ?_; refine S.mapU ?_) | refine svz ⟨fun b hq => ?_⟩ | refine sv1 ?_ | refine svs ⟨?_⟩ | refine svu ⟨fun u => ?_⟩ | (refine svg (fun hg => ?_) (fun hg => ?_) <;> try (exfalso; first | omega | contradiction)) | (refine svc (fun hc => ?_) (fun hc => ?_) <;> try (exfalso; first | omega | contradiction)) | refine sv2 ?_ | refine svh (fun hb => ?_) (fun hb => ?_) | refine svb (fun b => ?_) | refine sva ?_ | refine sv3 ?_))
    exact fin_r (h' := _) rfl
theorem fit_str {N : Nat} {x : AV} (h : FitE N .str x) : ∃ s : ByteArray, x = .val (.string s) ∧ s.size ≤ N := by
  simp only [FitE, FitB, Sh.isSt, Bool.false_eq_true, if_false, Fits] at h
  obtain ⟨s, h1, h2⟩ := h
  injection h1 with h1 _
  exact ⟨s, h1, h2⟩
theorem bits_row : ∀ l, FitAll maxLen [.int .i64, .int .i64, .str] l → ACalls Try.prog 7 l [] (fun r h' => r = .val (.bool true)) := by
  rintro l ⟨x, _, rfl, hx, y, _, rfl, hy, z, _, rfl, hz, rfl⟩
  obtain ⟨w, rfl, _⟩ := fit_int hx
  obtain ⟨g, rfl, _⟩ := fit_int hy
  obtain ⟨s, rfl, hs⟩ := fit_str hz
  exact bits_c w g s hs
end Go.Proofs.Ytdknjjgmmmmfjaa
