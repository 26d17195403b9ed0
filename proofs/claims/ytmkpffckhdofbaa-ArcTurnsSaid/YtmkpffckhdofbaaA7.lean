/- What discs and rings are; the example; ArcInside. No condition. -/
import Derived.Test.YtmkpffckhdofbaaA6
import Derived.Test.YtmkpffckhdofbaaG10
namespace Go.Proofs.Ytmkpffckhdofbaa
open Go Go.VM
attribute [local irreducible] PurV Pur Step RL W D ACalls Then InBlock Fini
set_option linter.unusedVariables false
set_option linter.unusedSimpArgs false
set_option maxHeartbeats 20000000
theorem disc_can (r : RC) : Can (discF r) := by unfold discF; split; exact can_of _; exact can_nil
theorem ring_can (r : RC) : Can (ringF r) := by unfold ringF; split; exact can_of _; exact can_nil
theorem discF_has (r : RC) (x y : Int) : hasR (discF r) x y = insF r x y := by
  unfold discF
  by_cases hk : aok r
  · rw [if_pos hk, disc_has hk, insF_aok hk]
  · rw [if_neg hk, insF_no hk]; rfl
theorem ringF_has (r : RC) (x y : Int) : hasR (ringF r) x y = onF r x y := by
  unfold ringF
  by_cases hk : aok r
  · rw [if_pos hk, ring_has hk, onF_aok hk]
  · rw [if_neg hk]; unfold onF; rw [decide_eq_false hk]; rfl
theorem inA_in {r : RC} {x y : Int} (h : inA r x y = true) : inR r x y := of_decide_eq_true (Bool.and_eq_true_iff.1 h).1
theorem onA_in {r : RC} {x y : Int} (h : onA r x y = true) : inA r x y = true := (Bool.and_eq_true_iff.1 h).1
theorem insF_in {r : RC} {x y : Int} (h : insF r x y = true) : aok r ∧ inR r x y := ⟨of_decide_eq_true (Bool.and_eq_true_iff.1 h).1, inA_in (Bool.and_eq_true_iff.1 h).2⟩
theorem onF_in {r : RC} {x y : Int} (h : onF r x y = true) : insF r x y = true := by
  unfold onF at h; unfold insF
  rw [Bool.and_eq_true] at h ⊢
  exact ⟨h.1, onA_in h.2⟩
/-- A disc lies in its rectangle. -/
theorem disc_inb (r : RC) : ∀ q ∈ discF r, (r.x ≤ q.x ∧ q.x + q.w ≤ r.x + r.w) ∧ r.y ≤ q.y ∧ q.y + q.h ≤ r.y + r.h := fun q hq => by
  obtain ⟨⟨_, a, _⟩, _, b, _⟩ := (disc_can r).cnt q hq
  have h1 := (insF_in (by rw [← discF_has]; exact hasR_iff.2 ⟨q, hq, show q.has q.x q.y by unfold RC.has; omega⟩ : insF r q.x q.y = true)).2
  have h2 := (insF_in (by rw [← discF_has]; exact hasR_iff.2 ⟨q, hq, show q.has (q.x + q.w - 1) (q.y + q.h - 1) by unfold RC.has; omega⟩ : insF r (q.x + q.w - 1) (q.y + q.h - 1) = true)).2
  unfold inR at h1 h2
  omega
theorem ring_inb (r : RC) : ∀ q ∈ ringF r, (r.x ≤ q.x ∧ q.x + q.w ≤ r.x + r.w) ∧ r.y ≤ q.y ∧ q.y + q.h ≤ r.y + r.h := fun q hq => by
  obtain ⟨⟨_, a, _⟩, _, b, _⟩ := (ring_can r).cnt q hq
  have h1 := (insF_in (onF_in (by rw [← ringF_has]; exact hasR_iff.2 ⟨q, hq, show q.has q.x q.y by unfold RC.has; omega⟩ : onF r q.x q.y = true))).2
  have h2 := (insF_in (onF_in (by rw [← ringF_has]; exact hasR_iff.2 ⟨q, hq, show q.has (q.x + q.w - 1) (q.y + q.h - 1) by unfold RC.has; omega⟩ : onF r (q.x + q.w - 1) (q.y + q.h - 1) = true))).2
  unfold inR at h1 h2
  omega
/-- How long the lists are. -/
theorem len_box {m : List RC} {r : RC} (hm : Can m) (hw : 0 ≤ r.w ∧ r.w ≤ 4096) (hh : 0 ≤ r.h ∧ r.h ≤ 4096) (hb : ∀ q ∈ m, (r.x ≤ q.x ∧ q.x + q.w ≤ r.x + r.w) ∧ r.y ≤ q.y ∧ q.y + q.h ≤ r.y + r.h) : (m.length : Int) ≤ r.w * r.h := by
  have h1 := len_area hm.cnt
  have h2 := areaF_gridR (x0 := r.x) (y0 := r.y) (w := r.w.toNat) (h := r.h.toNat) hm (by omega) (by omega) (fun q hq => by have := hb q hq; omega)
  have h3 := sumI_top (n := r.h.toNat) (f := fun i => sumI r.w.toNat fun j => ind (hasR m (r.x + (j : Int)) (r.y + (i : Int)))) (c := r.w) fun i _ => by
    have := sumI_top (n := r.w.toNat) (f := fun j => ind (hasR m (r.x + (j : Int)) (r.y + (i : Int)))) (c := 1) fun j _ => (ind_in _).2
    omega
  have e : (r.h.toNat : Int) * r.w = r.w * r.h := by rw [show (r.h.toNat : Int) = r.h by omega, Int.mul_comm]
  unfold gridR at h2
  omega
theorem disc_len (r : RC) : (discF r).length ≤ 16777216 := by
  by_cases hk : aok r
  · obtain ⟨_, ⟨⟨w1, w2⟩, h1, h2⟩, _⟩ := id hk
    have := len_box (disc_can r) (by omega) (by omega) (disc_inb r)
    have := mul_abs (a := r.w) (b := r.h) (A := 4096) (B := 4096) (by omega) (by omega)
    omega
  · unfold discF; rw [if_neg hk]; simp
theorem ring_len (r : RC) : (ringF r).length ≤ 16777216 := by
  by_cases hk : aok r
  · obtain ⟨_, ⟨⟨w1, w2⟩, h1, h2⟩, _⟩ := id hk
    have := len_box (ring_can r) (by omega) (by omega) (ring_inb r)
    have := mul_abs (a := r.w) (b := r.h) (A := 4096) (B := 4096) (by omega) (by omega)
    omega
  · unfold ringF; rw [if_neg hk]; simp
/-- In the middle there is a pixel. -/
theorem mid_in {r : RC} (ok : aok r) : insF r (r.x + (r.w - 1) / 2) (r.y + (r.h - 1) / 2) = true := by
  obtain ⟨_, ⟨⟨w1, w2⟩, h1, h2⟩, _⟩ := id ok
  rw [insF_yes ok (by unfold inR; omega), insE_iff]
  have ea : 2 * (r.x + (r.w - 1) / 2 - r.x) + 1 - r.w = 0 ∨ (2 * (r.x + (r.w - 1) / 2 - r.x) + 1 - r.w = -1 ∧ 2 ≤ r.w) := by omega
  have eb : 2 * (r.y + (r.h - 1) / 2 - r.y) + 1 - r.h = 0 ∨ (2 * (r.y + (r.h - 1) / 2 - r.y) + 1 - r.h = -1 ∧ 2 ≤ r.h) := by omega
  generalize 2 * (r.x + (r.w - 1) / 2 - r.x) + 1 - r.w = a at *
  generalize 2 * (r.y + (r.h - 1) / 2 - r.y) + 1 - r.h = b at *
  generalize r.w = w at *
  generalize r.h = h at *
  clear ok
  have p1 : 1 ≤ w * w := by have := Int.mul_le_mul (show (1 : Int) ≤ w by omega) (show (1 : Int) ≤ w by omega) (by omega) (by omega); omega
  have p2 : 1 ≤ h * h := by have := Int.mul_le_mul (show (1 : Int) ≤ h by omega) (show (1 : Int) ≤ h by omega) (by omega) (by omega); omega
  have q : w * h * (w * h) = (w * w) * (h * h) := by grind
  rw [q]
  rcases ea with rfl | ⟨rfl, hw⟩
  · rcases eb with rfl | ⟨rfl, hh⟩
    · have := Int.mul_nonneg (show 0 ≤ w * w by omega) (show 0 ≤ h * h by omega)
      simp only [Int.zero_mul, Int.mul_zero, Int.add_zero]; exact this
    · have e : 0 * h * (0 * h) + -1 * w * (-1 * w) = w * w := by grind
      rw [e]
      have := Int.mul_nonneg (show 0 ≤ w * w by omega) (show 0 ≤ h * h - 1 by omega)
      grind
  · rcases eb with rfl | ⟨rfl, hh⟩
    · have e : -1 * h * (-1 * h) + 0 * w * (0 * w) = h * h := by grind
      rw [e]
      have := Int.mul_nonneg (show 0 ≤ h * h by omega) (show 0 ≤ w * w - 1 by omega)
      grind
    · have e : -1 * h * (-1 * h) + -1 * w * (-1 * w) = h * h + w * w := by grind
      rw [e]
      have s1 : 4 ≤ w * w := by have := Int.mul_le_mul (show (2 : Int) ≤ w by omega) (show (2 : Int) ≤ w by omega) (by omega) (by omega); omega
      have s2 : 4 ≤ h * h := by have := Int.mul_le_mul (show (2 : Int) ≤ h by omega) (show (2 : Int) ≤ h by omega) (by omega) (by omega); omega
      have s3 := Int.mul_le_mul (show (2 : Int) ≤ w * w - 1 by omega) (show (2 : Int) ≤ h * h - 1 by omega) (by omega) (by omega)
      grind
theorem disc_ne {r : RC} (ok : aok r) : discF r ≠ [] := fun e => by
  have := discF_has r (r.x + (r.w - 1) / 2) (r.y + (r.h - 1) / 2)
  rw [e, mid_in ok] at this; cases this
theorem ring_ne {r : RC} (ok : aok r) : ringF r ≠ [] := fun e => by
  have h1 := mid_in ok
  rw [insF_aok ok, rowF_spec ok] at h1
  have h2 : inA r (rowF r (r.y + (r.h - 1) / 2)).1 (r.y + (r.h - 1) / 2) = true := (rowF_spec ok _ _).2 (by omega)
  have h3 : inA r ((rowF r (r.y + (r.h - 1) / 2)).1 - 1) (r.y + (r.h - 1) / 2) = false := by
    cases hh : inA r ((rowF r (r.y + (r.h - 1) / 2)).1 - 1) (r.y + (r.h - 1) / 2) with
    | false => rfl
    | true => have := (rowF_spec ok _ _).1 hh; omega
  have := ringF_has r (rowF r (r.y + (r.h - 1) / 2)).1 (r.y + (r.h - 1) / 2)
  rw [e, onF_aok ok] at this
  unfold onA at this
  rw [h2, h3] at this
  cases this
theorem disc_empty (r : RC) : (decide ((discF r).length = 0)) = decide (errF r ≠ 0) := by
  refine decide_eq_decide.2 ?_
  rw [List.length_eq_zero_iff]
  constructor
  · exact fun e q => disc_ne (errF_0.1 q) e
  · exact fun e => if_neg fun q => e (errF_0.2 q)
theorem ring_empty (r : RC) : (decide ((ringF r).length = 0)) = decide (errF r ≠ 0) := by
  refine decide_eq_decide.2 ?_
  rw [List.length_eq_zero_iff]
  constructor
  · exact fun e q => ring_ne (errF_0.1 q) e
  · exact fun e => if_neg fun q => e (errF_0.2 q)
theorem bx_disc {r : RC} {n : Nat} (h : (0 ≤ r.x ∧ r.x + r.w ≤ n) ∧ 0 ≤ r.y ∧ r.y + r.h ≤ n) : Bx 0 n (discF r) := ⟨disc_can r, fun q hq => by have := disc_inb r q hq; omega⟩
theorem bx_ring {r : RC} {n : Nat} (h : (0 ≤ r.x ∧ r.x + r.w ≤ n) ∧ 0 ≤ r.y ∧ r.y + r.h ≤ n) : Bx 0 n (ringF r) := ⟨ring_can r, fun q hq => by have := ring_inb r q hq; omega⟩
set_option maxRecDepth 100000 in
theorem awake_c (h : Heap) : ACalls Try.prog 12 [] h (fun r h' => r = .val (.bool true) ∧ h' = h) := by
  have k1 : aok ⟨0, 0, 4, 4⟩ := by decide
  have k2 : aok ⟨0, 0, 3, 1⟩ := by decide
  have d1 := fun h => disc_c ⟨0, 0, 4, 4⟩ h k1.ok
  have g1 := fun h => ring_c ⟨0, 0, 4, 4⟩ h k1.ok
  have s1 := fun h => span_c ⟨0, 0, 4, 4⟩ 0 h k1.ok (by omega)
  have d2 := fun h => disc_c ⟨0, 0, 3, 1⟩ h k2.ok
  have b1 := bx_disc (r := ⟨0, 0, 4, 4⟩) (n := 4) (by decide)
  have b2 := bx_ring (r := ⟨0, 0, 4, 4⟩) (n := 4) (by decide)
  have b3 := bx_disc (r := ⟨0, 0, 3, 1⟩) (n := 4) (by decide)
  have a1 : areaF (discF ⟨0, 0, 4, 4⟩) = 12 := by
    rw [b1.area, grid_congr (q := insF ⟨0, 0, 4, 4⟩) (discF_has _)]; decide +kernel
  have a2 : areaF (ringF ⟨0, 0, 4, 4⟩) = 8 := by
    rw [b2.area, grid_congr (q := onF ⟨0, 0, 4, 4⟩) (ringF_has _)]; decide +kernel
  have a3 : areaF (discF ⟨0, 0, 3, 1⟩) = 3 := by
    rw [b3.area, grid_congr (q := insF ⟨0, 0, 3, 1⟩) (discF_has _)]; decide +kernel
  have z1 : spanF ⟨0, 0, 4, 4⟩ 0 = (1, 3) := by decide +kernel
  have l1 := b1.len; have l2 := b2.len; have l3 := b3.len
  have c1 := fun h => barea_c (discF ⟨0, 0, 4, 4⟩) h (by omega) (fun r hr => (b1.can.cnt r hr).sm)
  have c2 := fun h => barea_c (ringF ⟨0, 0, 4, 4⟩) h (by omega) (fun r hr => (b2.can.cnt r hr).sm)
  have c3 := fun h => barea_c (discF ⟨0, 0, 3, 1⟩) h (by omega) (fun r hr => (b3.can.cnt r hr).sm)
  rw [a1] at c1
  rw [a2] at c2
  rw [a3] at c3
  rw [show errF ⟨0, 0, 4, 4⟩ = 0 from errF_0.2 k1] at d1 g1
  rw [show errF ⟨0, 0, 3, 1⟩ = 0 from errF_0.2 k2] at d2
  rw [z1] at s1
  clear a1 a2 a3 b1 b2 b3 l1 l2 l3 z1 k1 k2
  generalize discF ⟨0, 0, 4, 4⟩ = D at *
  generalize ringF ⟨0, 0, 4, 4⟩ = G at *
  generalize discF ⟨0, 0, 3, 1⟩ = E at *
  unfold regE at *
  refine ACalls.intro Try.func12 rfl Try.ntmps12 Try.results12 (Nat.le_of_ble_eq_true rfl) ?_
  (repeat' (first | (refine iS ?_; refine iMu ?_; refine S.mapU ?_) | refine svz ⟨fun b hq => ?_⟩ | refine sv1 ?_ | refine svs ⟨?_⟩ | refine svu ⟨fun u => ?_⟩ | (refine svg (fun hg => ?_) (fun hg => ?_) <;> try (exfalso; first | omega | contradiction)) | (refine svc (fun hc => ?_) (fun hc => ?_) <;> try (exfalso; first | omega | contradiction)) | refine sv2 ?_ | refine svh (fun hb => ?_) (fun hb => ?_) | refine svb (fun b => ?_) | refine sva ?_ | refine sv3 ?_))
  refine S.call ?_; refine (d1 _).mono ?_; rintro r h' ⟨rfl, hh⟩; subst hh
  (repeat' (first | (refine iS ?_; refine iMu ?_; refine S.mapU ?_) | refine svz ⟨fun b hq => ?_⟩ | refine sv1 ?_ | refine svs ⟨?_⟩ | refine svu ⟨fun u => ?_⟩ | (refine svg (fun hg => ?_) (fun hg => ?_) <;> try (exfalso; first | omega | contradiction)) | (refine svc (fun hc => ?_) (fun hc => ?_) <;> try (exfalso; first | omega | contradiction)) | refine sv2 ?_ | refine svh (fun hb => ?_) (fun hb => ?_) | refine svb (fun b => ?_) | refine sva ?_ | refine sv3 ?_))
  refine S.call ?_; refine (g1 _).mono ?_; rintro r h' ⟨rfl, hh⟩; subst hh
  (repeat' (first | (refine iS ?_; refine iMu ?_; refine S.mapU ?_) | refine svz ⟨fun b hq => ?_⟩ | refine sv1 ?_ | refine svs ⟨?_⟩ | refine svu ⟨fun u => ?_⟩ | (refine svg (fun hg => ?_) (fun hg => ?_) <;> try (exfalso; first | omega | contradiction)) | (refine svc (fun hc => ?_) (fun hc => ?_) <;> try (exfalso; first | omega | contradiction)) | refine sv2 ?_ | refine svh (fun hb => ?_) (fun hb => ?_) | refine svb (fun b => ?_) | refine sva ?_ | refine sv3 ?_))
  refine S.call ?_; refine (s1 _).mono ?_; rintro r h' ⟨rfl, hh⟩; subst hh
  (repeat' (first | (refine iS ?_; refine iMu ?_; refine S.mapU ?_) | refine svz ⟨fun b hq => ?_⟩ | refine sv1 ?_ | refine svs ⟨?_⟩ | refine svu ⟨fun u => ?_⟩ | (refine svg (fun hg => ?_) (fun hg => ?_) <;> try (exfalso; first | omega | contradiction)) | (refine svc (fun hc => ?_) (fun hc => ?_) <;> try (exfalso; first | omega | contradiction)) | refine sv2 ?_ | refine svh (fun hb => ?_) (fun hb => ?_) | refine svb (fun b => ?_) | refine sva ?_ | refine sv3 ?_))
  refine S.call ?_; refine (d2 _).mono ?_; rintro r h' ⟨rfl, hh⟩; subst hh
  (repeat' (first | (refine iS ?_; refine iMu ?_; refine S.mapU ?_) | refine svz ⟨fun b hq => ?_⟩ | refine sv1 ?_ | refine svs ⟨?_⟩ | refine svu ⟨fun u => ?_⟩ | (refine svg (fun hg => ?_) (fun hg => ?_) <;> try (exfalso; first | omega | contradiction)) | (refine svc (fun hc => ?_) (fun hc => ?_) <;> try (exfalso; first | omega | contradiction)) | refine sv2 ?_ | refine svh (fun hb => ?_) (fun hb => ?_) | refine svb (fun b => ?_) | refine sva ?_ | refine sv3 ?_))
  refine S.call ?_; refine (c1 _).mono ?_; rintro r h' ⟨rfl, hh⟩; subst hh
  (repeat' (first | (refine iS ?_; refine iMu ?_; refine S.mapU ?_) | refine svz ⟨fun b hq => ?_⟩ | refine sv1 ?_ | refine svs ⟨?_⟩ | refine svu ⟨fun u => ?_⟩ | (refine svg (fun hg => ?_) (fun hg => ?_) <;> try (exfalso; first | omega | contradiction)) | (refine svc (fun hc => ?_) (fun hc => ?_) <;> try (exfalso; first | omega | contradiction)) | refine sv2 ?_ | refine svh (fun hb => ?_) (fun hb => ?_) | refine svb (fun b => ?_) | refine sva ?_ | refine sv3 ?_))
  refine S.call ?_; refine (c2 _).mono ?_; rintro r h' ⟨rfl, hh⟩; subst hh
  (repeat' (first | (refine iS ?_; refine iMu ?_; refine S.mapU ?_) | refine svz ⟨fun b hq => ?_⟩ | refine sv1 ?_ | refine svs ⟨?_⟩ | refine svu ⟨fun u => ?_⟩ | (refine svg (fun hg => ?_) (fun hg => ?_) <;> try (exfalso; first | omega | contradiction)) | (refine svc (fun hc => ?_) (fun hc => ?_) <;> try (exfalso; first | omega | contradiction)) | refine sv2 ?_ | refine svh (fun hb => ?_) (fun hb => ?_) | refine svb (fun b => ?_) | refine sva ?_ | refine sv3 ?_))
  refine S.call ?_; refine (c3 _).mono ?_; rintro r h' ⟨rfl, hh⟩; subst hh
  (repeat' (first | (refine iS ?_; refine iMu ?_; refine S.mapU ?_) | refine svz ⟨fun b hq => ?_⟩ | refine sv1 ?_ | refine svs ⟨?_⟩ | refine svu ⟨fun u => ?_⟩ | (refine svg (fun hg => ?_) (fun hg => ?_) <;> try (exfalso; first | omega | contradiction)) | (refine svc (fun hc => ?_) (fun hc => ?_) <;> try (exfalso; first | omega | contradiction)) | refine sv2 ?_ | refine svh (fun hb => ?_) (fun hb => ?_) | refine svb (fun b => ?_) | refine sva ?_ | refine sv3 ?_))
  exact fin_r (h' := _) ⟨rfl, rfl⟩
set_option maxRecDepth 100000 in
theorem insides_c (r : RC) (x y : Int) (ok : r.ok) : ACalls Try.prog 5 [r.enc, .val (.int .i64 x), .val (.int .i64 y)] [] (fun r h' => r = .val (.bool true)) := by
  have h1 := fun h => inside_c r x y h ok
  have h2 := fun h => rinside_c r x y h ok
  generalize insF r x y = u at *
  show ACalls Try.prog 5 [.agg [.val (.int .i64 r.x), .val (.int .i64 r.y), .val (.int .i64 r.w), .val (.int .i64 r.h)], _, _] [] _
  refine ACalls.intro Try.func5 rfl Try.ntmps5 Try.results5 (Nat.le_of_ble_eq_true rfl) ?_
  (repeat' (first | (refine iS ?_; refine iMu ?_; refine S.mapU ?_) | refine svz ⟨fun b hq => ?_⟩ | refine sv1 ?_ | refine svs ⟨?_⟩ | refine svu ⟨fun u => ?_⟩ | (refine svg (fun hg => ?_) (fun hg => ?_) <;> try (exfalso; first | omega | contradiction)) | (refine svc (fun hc => ?_) (fun hc => ?_) <;> try (exfalso; first | omega | contradiction)) | refine sv2 ?_ | refine svh (fun hb => ?_) (fun hb => ?_) | refine svb (fun b => ?_) | refine sva ?_ | refine sv3 ?_))
  refine R2.C (h1 _) ?_
  (repeat' (first | (refine iS ?_; refine iMu ?_; refine S.mapU ?_) | refine svz ⟨fun b hq => ?_⟩ | refine sv1 ?_ | refine svs ⟨?_⟩ | refine svu ⟨fun u => ?_⟩ | (refine svg (fun hg => ?_) (fun hg => ?_) <;> try (exfalso; first | omega | contradiction)) | (refine svc (fun hc => ?_) (fun hc => ?_) <;> try (exfalso; first | omega | contradiction)) | refine sv2 ?_ | refine svh (fun hb => ?_) (fun hb => ?_) | refine svb (fun b => ?_) | refine sva ?_ | refine sv3 ?_))
  refine R2.C (h2 _) ?_
  cases u <;> (
  (repeat' (first | (refine iS ?_; refine iMu ?_; refine S.mapU ?_) | refine svz ⟨fun b hq => ?_⟩ | refine sv1 ?_ | refine svs ⟨?_⟩ | refine svu ⟨fun u => ?_⟩ | (refine svg (fun hg => ?_) (fun hg => ?_) <;> try (exfalso; first | omega | contradiction)) | (refine svc (fun hc => ?_) (fun hc => ?_) <;> try (exfalso; first | omega | contradiction)) | refine sv2 ?_ | refine svh (fun hb => ?_) (fun hb => ?_) | refine svb (fun b => ?_) | refine sva ?_ | refine sv3 ?_))
  refine R2.C (awake_c _) ?_
  (repeat' (first | (refine iS ?_; refine iMu ?_; refine S.mapU ?_) | refine svz ⟨fun b hq => ?_⟩ | refine sv1 ?_ | refine svs ⟨?_⟩ | refine svu ⟨fun u => ?_⟩ | (refine svg (fun hg => ?_) (fun hg => ?_) <;> try (exfalso; first | omega | contradiction)) | (refine svc (fun hc => ?_) (fun hc => ?_) <;> try (exfalso; first | omega | contradiction)) | refine sv2 ?_ | refine svh (fun hb => ?_) (fun hb => ?_) | refine svb (fun b => ?_) | refine sva ?_ | refine sv3 ?_))
  exact fin_r (h' := _) rfl)
end Go.Proofs.Ytmkpffckhdofbaa
