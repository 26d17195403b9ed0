/- shape.Bits. No condition. -/
import Derived.Test.YtdknjjgmmmmfjaaE21
import Derived.Test.YtdknjjgmmmmfjaaVM34
import Derived.Test.YtdknjjgmmmmfjaaG10
namespace Go.Proofs.Ytdknjjgmmmmfjaa
open Go Go.VM
attribute [local irreducible] PurV Pur Step RL W D ACalls Then InBlock Fini
set_option linter.unusedVariables false
set_option linter.unusedSimpArgs false
set_option maxHeartbeats 20000000
instance tb_s : TBytes Try.prog 87 5 := ⟨by kernel_rfl, by kernel_rfl⟩
set_option maxRecDepth 100000 in
theorem sbits_size (a : AV) (w g : Int) (h : Heap) (A : List RC) (hn : (w < 1 ∨ 128 < w) ∨ (g < 1 ∨ 128 < g)) : ACalls Try.prog 27 [regE A, .val (.int .i64 (w)), .val (.int .i64 (g))] h (fun r h' => r = .tup [.val (.string (strB [])), .val (.int .i64 (17))] ∧ h' = h) := by
  unfold regE
  have t : (w < 1 ∨ 128 < w) ∨ (1 ≤ w ∧ w ≤ 128) := by omega
  rcases t with t | t
  · have h1 := fun h => sided_f w h t
    refine ACalls.intro Try.func27 rfl Try.ntmps27 Try.results27 (Nat.le_of_ble_eq_true rfl) ?_
    (repeat' (first | (refine iS ?_; refine iMu ?_; refine S.mapU ?_) | refine svz ⟨fun b hq => ?_⟩ | refine sv1 ?_ | refine svs ⟨?_⟩ | refine svu ⟨fun u => ?_⟩ | (refine svg (fun hg => ?_) (fun hg => ?_) <;> try (exfalso; first | omega | contradiction)) | (refine svc (fun hc => ?_) (fun hc => ?_) <;> try (exfalso; first | omega | contradiction)) | refine sv2 ?_ | refine svh (fun hb => ?_) (fun hb => ?_) | refine svb (fun b => ?_) | refine sva ?_ | refine sv3 ?_))
    refine S.call ?_; refine (h1 _).mono ?_; rintro r h' ⟨rfl, hh⟩; subst hh
    (repeat' (first | (refine iS ?_; refine iMu ?_; refine S.mapU ?_) | refine svz ⟨fun b hq => ?_⟩ | refine sv1 ?_ | refine svs ⟨?_⟩ | refine svu ⟨fun u => ?_⟩ | (refine svg (fun hg => ?_) (fun hg => ?_) <;> try (exfalso; first | omega | contradiction)) | (refine svc (fun hc => ?_) (fun hc => ?_) <;> try (exfalso; first | omega | contradiction)) | refine sv2 ?_ | refine svh (fun hb => ?_) (fun hb => ?_) | refine svb (fun b => ?_) | refine sva ?_ | refine sv3 ?_))
    exact fin_r (h' := h) ⟨rfl, rfl⟩
  · have h1 := fun h => sided_t w h t
    have h2 := fun h => sided_f g h (by omega)
    refine ACalls.intro Try.func27 rfl Try.ntmps27 Try.results27 (Nat.le_of_ble_eq_true rfl) ?_
    (repeat' (first | (refine iS ?_; refine iMu ?_; refine S.mapU ?_) | refine svz ⟨fun b hq => ?_⟩ | refine sv1 ?_ | refine svs ⟨?_⟩ | refine svu ⟨fun u => ?_⟩ | (refine svg (fun hg => ?_) (fun hg => ?_) <;> try (exfalso; first | omega | contradiction)) | (refine svc (fun hc => ?_) (fun hc => ?_) <;> try (exfalso; first | omega | contradiction)) | refine sv2 ?_ | refine svh (fun hb => ?_) (fun hb => ?_) | refine svb (fun b => ?_) | refine sva ?_ | refine sv3 ?_))
    refine S.call ?_; refine (h1 _).mono ?_; rintro r h' ⟨rfl, hh⟩; subst hh
    (repeat' (first | (refine iS ?_; refine iMu ?_; refine S.mapU ?_) | refine svz ⟨fun b hq => ?_⟩ | refine sv1 ?_ | refine svs ⟨?_⟩ | refine svu ⟨fun u => ?_⟩ | (refine svg (fun hg => ?_) (fun hg => ?_) <;> try (exfalso; first | omega | contradiction)) | (refine svc (fun hc => ?_) (fun hc => ?_) <;> try (exfalso; first | omega | contradiction)) | refine sv2 ?_ | refine svh (fun hb => ?_) (fun hb => ?_) | refine svb (fun b => ?_) | refine sva ?_ | refine sv3 ?_))
    refine S.call ?_; refine (h2 _).mono ?_; rintro r h' ⟨rfl, hh⟩; subst hh
    (repeat' (first | (refine iS ?_; refine iMu ?_; refine S.mapU ?_) | refine svz ⟨fun b hq => ?_⟩ | refine sv1 ?_ | refine svs ⟨?_⟩ | refine svu ⟨fun u => ?_⟩ | (refine svg (fun hg => ?_) (fun hg => ?_) <;> try (exfalso; first | omega | contradiction)) | (refine svc (fun hc => ?_) (fun hc => ?_) <;> try (exfalso; first | omega | contradiction)) | refine sv2 ?_ | refine svh (fun hb => ?_) (fun hb => ?_) | refine svb (fun b => ?_) | refine sva ?_ | refine sv3 ?_))
    exact fin_r (h' := h) ⟨rfl, rfl⟩
def covB (x0 rw' y0 x y : Nat) (a b : Int) : Bool := decide (((x0 : Int) ≤ a ∧ a < (x0 : Int) + rw' ∧ (y0 : Int) ≤ b ∧ b < (y : Int)) ∨ ((x0 : Int) ≤ a ∧ a < (x : Int) ∧ b = (y : Int)))
theorem bytes_zero (n h : Nat) : ints .u8 (bytesF n h fun _ _ => false) = List.replicate (n * h) (.val (.int .u8 0)) := by
  unfold bytesF ints
  rw [List.map_map, List.eq_replicate_iff]
  refine ⟨by simp, fun b hb => ?_⟩
  obtain ⟨i, _, rfl⟩ := List.mem_map.1 hb
  rfl
theorem hasR_app (L M : List RC) (x y : Int) : hasR (L ++ M) x y = (hasR L x y || hasR M x y) := by unfold hasR; rw [List.any_append]
def covQ (Q : Int → Int → Bool) (x0 rw' y0 x y : Nat) : Int → Int → Bool := fun a b => Q a b || covB x0 rw' y0 x y a b
theorem cov_start {Q : Int → Int → Bool} {x0 rw' y0 : Nat} : (covQ Q x0 rw' y0 x0 y0) = Q := by
  funext a b
  unfold covQ
  rw [show covB x0 rw' y0 x0 y0 a b = false from decide_eq_false (by omega), Bool.or_false]
theorem cov_row {Q : Int → Int → Bool} {x0 rw' y0 y : Nat} (hy : y0 ≤ y) : (covQ Q x0 rw' y0 (x0 + rw') y) = (covQ Q x0 rw' y0 x0 (y + 1)) := by
  funext a b
  unfold covQ
  congr 1
  exact decide_eq_decide.2 (by push_cast; omega)
theorem cov_or {Q : Int → Int → Bool} {x0 rw' y0 x y : Nat} (hx : x0 ≤ x) : orP (covQ Q x0 rw' y0 x y) x y = (covQ Q x0 rw' y0 (x + 1) y) := by
  funext a b
  unfold orP covQ
  rw [Bool.or_assoc]
  congr 1
  unfold covB
  rw [← Bool.decide_and, ← Bool.decide_or]
  exact decide_eq_decide.2 (by push_cast; omega)
theorem cov_end {L : List RC} {i x0 rw' y0 rh : Nat} (h : L[i]? = some ⟨(x0 : Int), (y0 : Int), (rw' : Int), (rh : Int)⟩) : (covQ (hasR (L.take i)) x0 rw' y0 x0 (y0 + rh)) = hasR (L.take (i + 1)) := by
  funext a b
  unfold covQ
  rw [List.take_add_one, h, Option.toList_some, hasR_app]
  congr 1
  unfold hasR covB
  rw [List.any_cons, List.any_nil, Bool.or_false]
  refine decide_eq_decide.2 ?_
  unfold RC.has
  dsimp only
  push_cast
  omega
set_option maxRecDepth 100000 in
theorem sbits_c (A : List RC) (w : Int) (G st : Nat) (h : Heap) (hw : 1 ≤ w ∧ w ≤ 128) (hg : 1 ≤ G ∧ G ≤ 128) (hst : (w + 7) / 8 = (st : Nat)) (ok : JOk A (ofF [⟨0, 0, w, G⟩])) :
    ACalls Try.prog 27 [regE A, .val (.int .i64 (w)), .val (.int .i64 ((G : Nat)))] h (fun r h' => r = .tup [.val (.string (strB (bytesF st G (fun x y => hasR A x y && decide ((0 ≤ x ∧ x < w) ∧ 0 ≤ y ∧ y < (G : Int)))))), .val (.int .i64 (0))] ∧ h' = h) := by
  have hst1 : 1 ≤ st ∧ st ≤ 16 := by omega
  have h1 := fun h => sided_t w h hw
  have h2 := fun h => sided_t (G : Int) h (by omega)
  have okc : (⟨0, 0, w, G⟩ : RC).ok := by constructor <;> (unfold I64; dsimp only; omega)
  have w1 := fun h => within_c A ⟨0, 0, w, G⟩ h okc ok
  have hin : ∀ x y, hasR (joinJ (fun p q => p && q) A (ofF [⟨0, 0, w, (G : Int)⟩])) x y = (hasR A x y && decide ((0 ≤ x ∧ x < w) ∧ 0 ≤ y ∧ y < (G : Int))) := fun x y => by
    rw [has_join ok.a ok.b rfl, has_ofF, hasF_one]
    congr 1
    rw [← Bool.decide_and]
    refine decide_eq_decide.2 ?_
    unfold RC.cnt fitP RC.has
    dsimp only
    omega
  have bx : Bx 0 128 (joinJ (fun p q => p && q) A (ofF [⟨0, 0, w, (G : Int)⟩])) := .of_has (can_join _ _ _) fun x y e => by
    rw [hin, Bool.and_eq_true, decide_eq_true_iff] at e
    omega
  have hrc : ∀ r ∈ joinJ (fun p q => p && q) A (ofF [⟨0, 0, w, (G : Int)⟩]), (0 ≤ r.x ∧ 0 ≤ r.y) ∧ (1 ≤ r.w ∧ 1 ≤ r.h) ∧ r.x + r.w ≤ w ∧ r.y + r.h ≤ (G : Int) := fun r hr => by
    obtain ⟨⟨_, k1, _⟩, _, k2, _⟩ := bx.can.cnt r hr
    have q1 : hasR (joinJ (fun p q => p && q) A (ofF [⟨0, 0, w, (G : Int)⟩])) r.x r.y = true := hasR_iff.2 ⟨r, hr, by unfold RC.has; omega⟩
    have q2 : hasR (joinJ (fun p q => p && q) A (ofF [⟨0, 0, w, (G : Int)⟩])) (r.x + r.w - 1) (r.y + r.h - 1) = true := hasR_iff.2 ⟨r, hr, by unfold RC.has; omega⟩
    rw [hin, Bool.and_eq_true, decide_eq_true_iff] at q1 q2
    omega
  have hbl := bx.len
  rw [show (fun x y => hasR A x y && decide ((0 ≤ x ∧ x < w) ∧ 0 ≤ y ∧ y < (G : Int))) = hasR (joinJ (fun p q => p && q) A (ofF [⟨0, 0, w, (G : Int)⟩])) from (by funext x y; exact (hin x y).symm)]
  have r1 := fun h => rects_c (joinJ (fun p q => p && q) A (ofF [⟨0, 0, w, (G : Int)⟩])) h (by omega)
  have er : (⟨0, 0, w, (G : Int)⟩ : RC).enc = .agg [.val (.int .i64 (0)), .val (.int .i64 (0)), .val (.int .i64 (w)), .val (.int .i64 ((G : Nat)))] := rfl
  rw [er] at w1
  clear hin bx ok okc er
  generalize joinJ (fun p q => p && q) A (ofF [⟨0, 0, w, (G : Int)⟩]) = L at *
  have hmul : 0 ≤ (w + 7) / 8 * (G : Int) ∧ (w + 7) / 8 * (G : Int) ≤ 2048 := by
    have e : (w + 7) / 8 * (G : Int) = ((st * G : Nat) : Int) := by rw [hst]; push_cast; rfl
    have : st * G ≤ 16 * 128 := Nat.mul_le_mul hst1.2 hg.2
    rw [e]; omega
  unfold regE at *
  refine ACalls.intro Try.func27 rfl Try.ntmps27 Try.results27 (Nat.le_of_ble_eq_true rfl) ?_
  (repeat' (first | (refine iS ?_; refine iMu ?_; refine S.mapU ?_) | refine svz ⟨fun b hq => ?_⟩ | refine sv1 ?_ | refine svs ⟨?_⟩ | refine svu ⟨fun u => ?_⟩ | (refine svg (fun hg => ?_) (fun hg => ?_) <;> try (exfalso; first | omega | contradiction)) | (refine svc (fun hc => ?_) (fun hc => ?_) <;> try (exfalso; first | omega | contradiction)) | refine sv2 ?_ | refine svh (fun hb => ?_) (fun hb => ?_) | refine svb (fun b => ?_) | refine sva ?_ | refine sv3 ?_))
  refine S.call ?_; refine (h1 _).mono ?_; rintro r h' ⟨rfl, hh⟩; subst hh
  (repeat' (first | (refine iS ?_; refine iMu ?_; refine S.mapU ?_) | refine svz ⟨fun b hq => ?_⟩ | refine sv1 ?_ | refine svs ⟨?_⟩ | refine svu ⟨fun u => ?_⟩ | (refine svg (fun hg => ?_) (fun hg => ?_) <;> try (exfalso; first | omega | contradiction)) | (refine svc (fun hc => ?_) (fun hc => ?_) <;> try (exfalso; first | omega | contradiction)) | refine sv2 ?_ | refine svh (fun hb => ?_) (fun hb => ?_) | refine svb (fun b => ?_) | refine sva ?_ | refine sv3 ?_))
  refine S.call ?_; refine (h2 _).mono ?_; rintro r h' ⟨rfl, hh⟩; subst hh
  (repeat' (first | (refine iS ?_; refine iMu ?_; refine S.mapU ?_) | refine svz ⟨fun b hq => ?_⟩ | refine sv1 ?_ | refine svs ⟨?_⟩ | refine svu ⟨fun u => ?_⟩ | (refine svg (fun hg => ?_) (fun hg => ?_) <;> try (exfalso; first | omega | contradiction)) | (refine svc (fun hc => ?_) (fun hc => ?_) <;> try (exfalso; first | omega | contradiction)) | refine sv2 ?_ | refine svh (fun hb => ?_) (fun hb => ?_) | refine svb (fun b => ?_) | refine sva ?_ | refine sv3 ?_))
  refine S.call ?_; refine (w1 _).mono ?_; rintro r h' ⟨rfl, hh⟩; subst hh
  (repeat' (first | (refine iS ?_; refine iMu ?_; refine S.mapU ?_) | refine svz ⟨fun b hq => ?_⟩ | refine sv1 ?_ | refine svs ⟨?_⟩ | refine svu ⟨fun u => ?_⟩ | (refine svg (fun hg => ?_) (fun hg => ?_) <;> try (exfalso; first | omega | contradiction)) | (refine svc (fun hc => ?_) (fun hc => ?_) <;> try (exfalso; first | omega | contradiction)) | refine sv2 ?_ | refine svh (fun hb => ?_) (fun hb => ?_) | refine svb (fun b => ?_) | refine sva ?_ | refine sv3 ?_))
  refine S.call ?_; refine (r1 _).mono ?_; rintro r h' ⟨rfl, hh⟩; subst hh
  (repeat' (first | (refine iS ?_; refine iMu ?_; refine S.mapU ?_) | refine svz ⟨fun b hq => ?_⟩ | refine sv1 ?_ | refine svs ⟨?_⟩ | refine svu ⟨fun u => ?_⟩ | (refine svg (fun hg => ?_) (fun hg => ?_) <;> try (exfalso; first | omega | contradiction)) | (refine svc (fun hc => ?_) (fun hc => ?_) <;> try (exfalso; first | omega | contradiction)) | refine sv2 ?_ | refine svh (fun hb => ?_) (fun hb => ?_) | refine svb (fun b => ?_) | refine sva ?_ | refine sv3 ?_))
  have ez : ((w + 7) / 8 * (G : Int)).toNat = st * G := by
    rw [hst, show (st : Int) * (G : Int) = ((st * G : Nat) : Int) by push_cast; rfl, Int.toNat_natCast]
  rw [ez, ← bytes_zero]
  clear ez hmul h1 h2 w1 r1
  rw [hst]
  refine W.loop (J := fun z : Nat × Value => ⟨79, [(36, .val (.int .i64 ((z.1 : Nat)))), (35, .val (.int .i64 ((L.length : Nat)))), (34, .ro 4 (L.map RC.enc)), (9, .val z.2), (8, .val (.int .i64 (st)))], .own z.2 1 (ints .u8 (bytesF st G ((hasR (L.take z.1))))) 5 :: h⟩)
    (Φ := fun z => z.1 ≤ L.length) (μ := fun z => L.length - z.1) (0, u) lee (Nat.zero_le _) ?_
  rintro ⟨i, v⟩ hi
  dsimp only at hi ⊢
  rcases Nat.lt_or_ge i L.length with hil | hig
  · obtain ⟨r, hr⟩ : ∃ r, L[i]? = some r := ⟨_, List.getElem?_eq_getElem hil⟩
    obtain ⟨⟨b1, b2⟩, ⟨b3, b4⟩, b5, b6⟩ := hrc r (List.mem_of_getElem? hr)
    obtain ⟨rx, ry, rw0, rh0⟩ := r
    dsimp only at b1 b2 b3 b4 b5 b6
    obtain ⟨x0, rfl⟩ : ∃ n : Nat, rx = (n : Int) := ⟨rx.toNat, by omega⟩
    obtain ⟨y0, rfl⟩ : ∃ n : Nat, ry = (n : Int) := ⟨ry.toNat, by omega⟩
    obtain ⟨rw', rfl⟩ : ∃ n : Nat, rw0 = (n : Int) := ⟨rw0.toNat, by omega⟩
    obtain ⟨rh, rfl⟩ : ∃ n : Nat, rh0 = (n : Int) := ⟨rh0.toNat, by omega⟩
    have en := cov_end hr
    clear hrc
    generalize hQ1 : hasR (L.take (i + 1)) = Q1 at *
    generalize hQ0 : hasR (L.take i) = Q0 at *
    (repeat' (first | (refine iS ?_; refine iMu ?_; refine S.mapU ?_) | refine svz ⟨fun b hq => ?_⟩ | refine sv1 ?_ | refine svs ⟨?_⟩ | refine svu ⟨fun u => ?_⟩ | (refine svg (fun hg => ?_) (fun hg => ?_) <;> try (exfalso; first | omega | contradiction)) | (refine svc (fun hc => ?_) (fun hc => ?_) <;> try (exfalso; first | omega | contradiction)) | refine sv2 ?_ | refine svh (fun hb => ?_) (fun hb => ?_) | refine svb (fun b => ?_) | refine sva ?_ | refine sv3 ?_))
    revert b; intro b11
    refine W.loop (J := fun y : Nat => ⟨79, [(12, .val (.int .i64 ((y : Nat)))), (11, .val (.pointer (some ⟨b11, 0, none⟩))), (36, .val (.int .i64 ((i : Nat)))), (35, .val (.int .i64 ((L.length : Nat)))), (34, .ro 4 (L.map RC.enc)), (9, .val v), (8, .val (.int .i64 (st)))], .own v 1 (ints .u8 (bytesF st G ((covQ Q0 x0 rw' y0 x0 y)))) 5 :: .box b11 [.val (.int .i64 ((x0 : Nat))), .val (.int .i64 ((y0 : Nat))), .val (.int .i64 ((rw' : Nat))), .val (.int .i64 ((rh : Nat)))] 43 :: h⟩)
      (Φ := fun y => y0 ≤ y ∧ y ≤ y0 + rh) (μ := fun y => y0 + rh - y) y0 (by rw [cov_start]; exact lee) ⟨Nat.le_refl _, by omega⟩ ?_
    rintro y ⟨hy0, hy1⟩
    rcases Nat.lt_or_ge y (y0 + rh) with hyl | hyg
    · (repeat' (first | (refine iS ?_; refine iMu ?_; refine S.mapU ?_) | refine svz ⟨fun b hq => ?_⟩ | refine sv1 ?_ | refine svs ⟨?_⟩ | refine svu ⟨fun u => ?_⟩ | (refine svg (fun hg => ?_) (fun hg => ?_) <;> try (exfalso; first | omega | contradiction)) | (refine svc (fun hc => ?_) (fun hc => ?_) <;> try (exfalso; first | omega | contradiction)) | refine sv2 ?_ | refine svh (fun hb => ?_) (fun hb => ?_) | refine svb (fun b => ?_) | refine sva ?_ | refine sv3 ?_))
      refine W.loop (J := fun x : Nat => ⟨79, [(13, .val (.int .i64 ((x : Nat)))), (12, .val (.int .i64 ((y : Nat)))), (11, .val (.pointer (some ⟨b11, 0, none⟩))), (36, .val (.int .i64 ((i : Nat)))), (35, .val (.int .i64 ((L.length : Nat)))), (34, .ro 4 (L.map RC.enc)), (9, .val v), (8, .val (.int .i64 (st)))], .own v 1 (ints .u8 (bytesF st G ((covQ Q0 x0 rw' y0 x y)))) 5 :: .box b11 [.val (.int .i64 ((x0 : Nat))), .val (.int .i64 ((y0 : Nat))), .val (.int .i64 ((rw' : Nat))), .val (.int .i64 ((rh : Nat)))] 43 :: h⟩)
        (Φ := fun x => x0 ≤ x ∧ x ≤ x0 + rw') (μ := fun x => x0 + rw' - x) x0 lee ⟨Nat.le_refl _, by omega⟩ ?_
      rintro x ⟨hx0, hx1⟩
      rcases Nat.lt_or_ge x (x0 + rw') with hxl | hxg
      · have hor := bytes_or (n := st) (h := G) (x := x) (y := y) (p := covQ Q0 x0 rw' y0 x y) (by omega) (by omega)
        rw [cov_or hx0] at hor
        have hcell := bytes_at (p := covQ Q0 x0 rw' y0 x y) hor.1
        have hci : 0 ≤ cellB st (covQ Q0 x0 rw' y0 x y) (y * st + x / 8) ∧ cellB st (covQ Q0 x0 rw' y0 x y) (y * st + x / 8) ≤ 255 := byte_in _
        have hlen := bytes_len st G (covQ Q0 x0 rw' y0 x y)
        obtain ⟨hlt, hor⟩ := hor
        have hym2 : (y : Int) * (st : Int) = ((y * st : Nat) : Int) := by push_cast; rfl
        have hsg : st * G ≤ 16 * 128 := Nat.mul_le_mul hst1.2 hg.2
        have hym : 0 ≤ (y : Int) * (st : Int) ∧ (y : Int) * (st : Int) ≤ 3000 := by rw [hym2]; omega
        have hsh : IntKind.u8.wrap (1 * 2 ^ min ((x : Int) % 8).toNat IntKind.u8.bits) = ((2 ^ (x % 8) : Nat) : Int) := by
          have k8 : x % 8 < 8 := Nat.mod_lt _ (by decide)
          rw [show ((x : Int) % 8).toNat = x % 8 by omega, show min (x % 8) IntKind.u8.bits = x % 8 from Nat.min_eq_left (by show x % 8 ≤ 8; omega)]
          have : (2 ^ (x % 8) : Nat) ≤ 2 ^ 7 := Nat.pow_le_pow_right (by decide) (by omega)
          rw [Int.one_mul, show (2 : Int) ^ (x % 8) = ((2 ^ (x % 8) : Nat) : Int) by push_cast; rfl]
          exact wrap_u8 (Int.natCast_nonneg _) (by omega)
        generalize cellB st (covQ Q0 x0 rw' y0 x y) (y * st + x / 8) = C at *
        generalize bytesF st G (covQ Q0 x0 rw' y0 x y) = B0 at *
        generalize hB1 : bytesF st G (covQ Q0 x0 rw' y0 (x + 1) y) = B1 at *
        have hsh : Hold _ := ⟨hsh⟩
        have hor : Hold _ := ⟨hor⟩
        (repeat' (first | (refine iS ?_; refine iMu ?_; refine S.mapU ?_) | refine svz ⟨fun b hq => ?_⟩ | refine sv1 ?_ | refine svs ⟨?_⟩ | refine svu ⟨fun u => ?_⟩ | (refine svg (fun hg => ?_) (fun hg => ?_) <;> try (exfalso; first | omega | contradiction)) | (refine svc (fun hc => ?_) (fun hc => ?_) <;> try (exfalso; first | omega | contradiction)) | refine sv2 ?_ | refine svh (fun hb => ?_) (fun hb => ?_) | refine svb (fun b => ?_) | refine sva ?_ | refine sv3 ?_))
        refine ⟨x + 1, ⟨by omega, hxl⟩, ?_, by omega⟩
        rw [hB1, hor.out, show ints .u8 (B0.set (y * st + x / 8) (bitsI .or .u8 C ((2 ^ (x % 8) : Nat) : Int))) = (ints .u8 B0).set (y * st + x / 8) (.val (.int .u8 (bitsI .or .u8 C ((2 ^ (x % 8) : Nat) : Int)))) from List.map_set .., ← hsh.out]
        exact lee
      · have e : x = x0 + rw' := by omega
        subst e
        rw [cov_row hy0]
        (repeat' (first | (refine iS ?_; refine iMu ?_; refine S.mapU ?_) | refine svz ⟨fun b hq => ?_⟩ | refine sv1 ?_ | refine svs ⟨?_⟩ | refine svu ⟨fun u => ?_⟩ | (refine svg (fun hg => ?_) (fun hg => ?_) <;> try (exfalso; first | omega | contradiction)) | (refine svc (fun hc => ?_) (fun hc => ?_) <;> try (exfalso; first | omega | contradiction)) | refine sv2 ?_ | refine svh (fun hb => ?_) (fun hb => ?_) | refine svb (fun b => ?_) | refine sva ?_ | refine sv3 ?_))
        exact ⟨y + 1, ⟨by omega, hyl⟩, lee, by omega⟩
    · have e : y = y0 + rh := by omega
      subst e
      rw [en]
      (repeat' (first | (refine iS ?_; refine iMu ?_; refine S.mapU ?_) | refine svz ⟨fun b hq => ?_⟩ | refine sv1 ?_ | refine svs ⟨?_⟩ | refine svu ⟨fun u => ?_⟩ | (refine svg (fun hg => ?_) (fun hg => ?_) <;> try (exfalso; first | omega | contradiction)) | (refine svc (fun hc => ?_) (fun hc => ?_) <;> try (exfalso; first | omega | contradiction)) | refine sv2 ?_ | refine svh (fun hb => ?_) (fun hb => ?_) | refine svb (fun b => ?_) | refine sva ?_ | refine sv3 ?_))
      exact ⟨(i + 1, v), hil, by dsimp only; rw [hQ1]; exact lee, by dsimp only; omega⟩
  · have e : i = L.length := by omega
    subst e
    rw [List.take_length]
    (repeat' (first | (refine iS ?_; refine iMu ?_; refine S.mapU ?_) | refine svz ⟨fun b hq => ?_⟩ | refine sv1 ?_ | refine svs ⟨?_⟩ | refine svu ⟨fun u => ?_⟩ | (refine svg (fun hg => ?_) (fun hg => ?_) <;> try (exfalso; first | omega | contradiction)) | (refine svc (fun hc => ?_) (fun hc => ?_) <;> try (exfalso; first | omega | contradiction)) | refine sv2 ?_ | refine svh (fun hb => ?_) (fun hb => ?_) | refine svb (fun b => ?_) | refine sva ?_ | refine sv3 ?_))
    refine Step.frz (v := v) (by (fail_if_success (apply tkG)); (repeat (first | exact Tk.here | apply Tk.there)); first | done | fail) (by repeat' (first | apply FrzT.cons | exact FrzT.rest _ | exact Frz.hit | apply Frz.aggc | apply Frz.tupc | exact Frz.aggn | exact Frz.tupn | exact Frz.keep _)) (by repeat' (first | apply FrzH.box | apply FrzH.keep | exact FrzH.rest _ | exact Frz.hit | apply Frz.aggc | apply Frz.tupc | exact Frz.aggn | exact Frz.tupn | exact Frz.keep _)) ?_
    refine iS ?_
    refine step_pur (pur_b2s (e := 5) (ns := bytesF st G (hasR L)) rfl) rfl ?_
    (repeat' (first | (refine iS ?_; refine iMu ?_; refine S.mapU ?_) | refine svz ⟨fun b hq => ?_⟩ | refine sv1 ?_ | refine svs ⟨?_⟩ | refine svu ⟨fun u => ?_⟩ | (refine svg (fun hg => ?_) (fun hg => ?_) <;> try (exfalso; first | omega | contradiction)) | (refine svc (fun hc => ?_) (fun hc => ?_) <;> try (exfalso; first | omega | contradiction)) | refine sv2 ?_ | refine svh (fun hb => ?_) (fun hb => ?_) | refine svb (fun b => ?_) | refine sva ?_ | refine sv3 ?_))
    exact fin_r (h' := h) ⟨rfl, rfl⟩
end Go.Proofs.Ytdknjjgmmmmfjaa
