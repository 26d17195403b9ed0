/- PenRegions. No condition. -/
import Derived.Test.YtmfbfbhkjclhkaaN20
import Derived.Test.YtmfbfbhkjclhkaaN17
import Derived.Test.YtmfbfbhkjclhkaaG10
namespace Go.Proofs.Ytmfbfbhkjclhkaa
open Go Go.VM
attribute [local irreducible] PurV Pur Step RL W D ACalls Then InBlock Fini
set_option linter.unusedVariables false
set_option linter.unusedSimpArgs false
set_option maxHeartbeats 20000000
theorem plP_has {w g x y : Int} (hw : w ≤ 1000) (hg : g ≤ 1000) : hasF [plP w g] x y = decide ((0 ≤ x ∧ x < w) ∧ 0 ≤ y ∧ y < g) := by
  have e : hasF [plP w g] x y = (decide (plP w g).cnt && decide ((plP w g).has x y)) := by unfold hasF; simp
  rw [e, ← Bool.decide_and]
  refine decide_eq_decide.2 ?_
  unfold RC.cnt fitP RC.has plP
  dsimp only
  omega
theorem reg_hasP {p : PN} (hc : chkF p = 0) {w g : Int} (hw : w ≤ 1000) (hg : g ≤ 1000) (x y : Int) : hasR (regP p w g) x y = hasP p w g x y := by
  rw [regP_has hc, plP_has hw hg, Bool.and_comm]; rfl
set_option maxRecDepth 100000 in
theorem regions_c (p : PN) (w g : Int) (hp : p.clip.length ≤ maxLen) (hw : 0 ≤ w ∧ w ≤ 255) (hg : 0 ≤ g ∧ g ≤ 255) : ACalls Try.prog 5 [p.enc, .val (.int .u8 (w)), .val (.int .u8 (g))] [] (fun r h' => r = .val (.bool true)) := by
  have fw := fun h => few_c p h (by unfold maxLen at hp; omega)
  by_cases hl : p.clip.length ≤ 300
  rotate_left
  · rw [decide_eq_false hl] at fw
    simp only [pn_enc] at *
    refine ACalls.intro Try.func5 rfl Try.ntmps5 Try.results5 (Nat.le_of_ble_eq_true rfl) ?_
    (repeat' (first | (refine iS ?_; refine iMu ?_; refine S.mapU ?_) | refine svz ⟨fun b hq => ?_⟩ | refine sv1 ?_ | refine svs ⟨?_⟩ | refine svu ⟨fun u => ?_⟩ | (refine svg (fun hg => ?_) (fun hg => ?_) <;> try (exfalso; first | omega | contradiction)) | (refine svc (fun hc => ?_) (fun hc => ?_) <;> try (exfalso; first | omega | contradiction)) | refine sv2 ?_ | refine svh (fun hb => ?_) (fun hb => ?_) | refine svb (fun b => ?_) | refine sva ?_ | refine sv3 ?_))
    refine S.call ?_; refine (fw _).mono ?_; rintro r h' ⟨rfl, hh⟩; subst hh
    (repeat' (first | (refine iS ?_; refine iMu ?_; refine S.mapU ?_) | refine svz ⟨fun b hq => ?_⟩ | refine sv1 ?_ | refine svs ⟨?_⟩ | refine svu ⟨fun u => ?_⟩ | (refine svg (fun hg => ?_) (fun hg => ?_) <;> try (exfalso; first | omega | contradiction)) | (refine svc (fun hc => ?_) (fun hc => ?_) <;> try (exfalso; first | omega | contradiction)) | refine sv2 ?_ | refine svh (fun hb => ?_) (fun hb => ?_) | refine svb (fun b => ?_) | refine sva ?_ | refine sv3 ?_))
    refine S.call ?_; refine (awake_c _).mono ?_; rintro r h' ⟨rfl, hh⟩; subst hh
    (repeat' (first | (refine iS ?_; refine iMu ?_; refine S.mapU ?_) | refine svz ⟨fun b hq => ?_⟩ | refine sv1 ?_ | refine svs ⟨?_⟩ | refine svu ⟨fun u => ?_⟩ | (refine svg (fun hg => ?_) (fun hg => ?_) <;> try (exfalso; first | omega | contradiction)) | (refine svc (fun hc => ?_) (fun hc => ?_) <;> try (exfalso; first | omega | contradiction)) | refine sv2 ?_ | refine svh (fun hb => ?_) (fun hb => ?_) | refine svb (fun b => ?_) | refine sva ?_ | refine sv3 ?_))
    exact fin_r (h' := _) rfl
  rw [decide_eq_true hl] at fw
  have o1 := fun h => ofp_c p h
  have c2 := fun h => rchk_c p h hl
  have hA0 : 0 ≤ w % 40 ∧ w % 40 < 40 := by omega
  have hB0 : 0 ≤ g % 40 ∧ g % 40 < 40 := by omega
  have r1 := fun h => pregion_c p (w % 40 - 2) (g % 40 - 2) h hl (by omega) (by omega)
  by_cases hc : chkF p ≠ 0
  · have em := fun h => empty_c (regP p (w % 40 - 2) (g % 40 - 2)) h
    rw [show regP p (w % 40 - 2) (g % 40 - 2) = [] by unfold regP; rw [if_pos hc]] at *
    rw [decide_eq_true (show ([] : List RC).length = 0 from rfl)] at em
    generalize chkF p = c at *
    simp only [pn_enc] at *
    unfold regE at *
    refine ACalls.intro Try.func5 rfl Try.ntmps5 Try.results5 (Nat.le_of_ble_eq_true rfl) ?_
    (repeat' (first | (refine iS ?_; refine iMu ?_; refine S.mapU ?_) | refine svz ⟨fun b hq => ?_⟩ | refine sv1 ?_ | refine svs ⟨?_⟩ | refine svu ⟨fun u => ?_⟩ | (refine svg (fun hg => ?_) (fun hg => ?_) <;> try (exfalso; first | omega | contradiction)) | (refine svc (fun hc => ?_) (fun hc => ?_) <;> try (exfalso; first | omega | contradiction)) | refine sv2 ?_ | refine svh (fun hb => ?_) (fun hb => ?_) | refine svb (fun b => ?_) | refine sva ?_ | refine sv3 ?_))
    refine S.call ?_; refine (fw _).mono ?_; rintro r h' ⟨rfl, hh⟩; subst hh
    (repeat' (first | (refine iS ?_; refine iMu ?_; refine S.mapU ?_) | refine svz ⟨fun b hq => ?_⟩ | refine sv1 ?_ | refine svs ⟨?_⟩ | refine svu ⟨fun u => ?_⟩ | (refine svg (fun hg => ?_) (fun hg => ?_) <;> try (exfalso; first | omega | contradiction)) | (refine svc (fun hc => ?_) (fun hc => ?_) <;> try (exfalso; first | omega | contradiction)) | refine sv2 ?_ | refine svh (fun hb => ?_) (fun hb => ?_) | refine svb (fun b => ?_) | refine sva ?_ | refine sv3 ?_))
    refine S.call ?_; refine (r1 _).mono ?_; rintro r h' ⟨rfl, hh⟩; subst hh
    (repeat' (first | (refine iS ?_; refine iMu ?_; refine S.mapU ?_) | refine svz ⟨fun b hq => ?_⟩ | refine sv1 ?_ | refine svs ⟨?_⟩ | refine svu ⟨fun u => ?_⟩ | (refine svg (fun hg => ?_) (fun hg => ?_) <;> try (exfalso; first | omega | contradiction)) | (refine svc (fun hc => ?_) (fun hc => ?_) <;> try (exfalso; first | omega | contradiction)) | refine sv2 ?_ | refine svh (fun hb => ?_) (fun hb => ?_) | refine svb (fun b => ?_) | refine sva ?_ | refine sv3 ?_))
    refine S.call ?_; refine (o1 _).mono ?_; rintro r h' ⟨rfl, hh⟩; subst hh
    (repeat' (first | (refine iS ?_; refine iMu ?_; refine S.mapU ?_) | refine svz ⟨fun b hq => ?_⟩ | refine sv1 ?_ | refine svs ⟨?_⟩ | refine svu ⟨fun u => ?_⟩ | (refine svg (fun hg => ?_) (fun hg => ?_) <;> try (exfalso; first | omega | contradiction)) | (refine svc (fun hc => ?_) (fun hc => ?_) <;> try (exfalso; first | omega | contradiction)) | refine sv2 ?_ | refine svh (fun hb => ?_) (fun hb => ?_) | refine svb (fun b => ?_) | refine sva ?_ | refine sv3 ?_))
    refine S.call ?_; refine (c2 _).mono ?_; rintro r h' ⟨rfl, hh⟩; subst hh
    (repeat' (first | (refine iS ?_; refine iMu ?_; refine S.mapU ?_) | refine svz ⟨fun b hq => ?_⟩ | refine sv1 ?_ | refine svs ⟨?_⟩ | refine svu ⟨fun u => ?_⟩ | (refine svg (fun hg => ?_) (fun hg => ?_) <;> try (exfalso; first | omega | contradiction)) | (refine svc (fun hc => ?_) (fun hc => ?_) <;> try (exfalso; first | omega | contradiction)) | refine sv2 ?_ | refine svh (fun hb => ?_) (fun hb => ?_) | refine svb (fun b => ?_) | refine sva ?_ | refine sv3 ?_))
    refine S.call ?_; refine (awake_c _).mono ?_; rintro r h' ⟨rfl, hh⟩; subst hh
    (repeat' (first | (refine iS ?_; refine iMu ?_; refine S.mapU ?_) | refine svz ⟨fun b hq => ?_⟩ | refine sv1 ?_ | refine svs ⟨?_⟩ | refine svu ⟨fun u => ?_⟩ | (refine svg (fun hg => ?_) (fun hg => ?_) <;> try (exfalso; first | omega | contradiction)) | (refine svc (fun hc => ?_) (fun hc => ?_) <;> try (exfalso; first | omega | contradiction)) | refine sv2 ?_ | refine svh (fun hb => ?_) (fun hb => ?_) | refine svb (fun b => ?_) | refine sva ?_ | refine sv3 ?_))
    refine S.call ?_; refine (em _).mono ?_; rintro r h' ⟨rfl, hh⟩; subst hh
    (repeat' (first | (refine iS ?_; refine iMu ?_; refine S.mapU ?_) | refine svz ⟨fun b hq => ?_⟩ | refine sv1 ?_ | refine svs ⟨?_⟩ | refine svu ⟨fun u => ?_⟩ | (refine svg (fun hg => ?_) (fun hg => ?_) <;> try (exfalso; first | omega | contradiction)) | (refine svc (fun hc => ?_) (fun hc => ?_) <;> try (exfalso; first | omega | contradiction)) | refine sv2 ?_ | refine svh (fun hb => ?_) (fun hb => ?_) | refine svb (fun b => ?_) | refine sva ?_ | refine sv3 ?_))
    exact fin_r (h' := _) rfl
  have hc : chkF p = 0 := by omega
  rw [hc] at c2
  have bx := regP_bx hc (w := w % 40 - 2) (g := g % 40 - 2) (n := 40) (by omega) (by omega)
  have h1 := fun x y h => bhas_c (regP p (w % 40 - 2) (g % 40 - 2)) x y h (by have := bx.len; omega) bx.can.cnt bx.can.y
  have h2 := fun x y h => rhasp_c p (w % 40 - 2) (g % 40 - 2) x y h hl hc
  have ar := fun h => barea_c (regP p (w % 40 - 2) (g % 40 - 2)) h (by have := bx.len; omega) (fun r hr => (bx.can.cnt r hr).sm)
  have hR := fun x y => reg_hasP hc (w := w % 40 - 2) (g := g % 40 - 2) (by omega) (by omega) x y
  obtain ⟨A, hA⟩ : ∃ A : Nat, w % 40 - 2 + 4 = (A : Int) := ⟨(w % 40 - 2 + 4).toNat, by omega⟩
  obtain ⟨B, hB⟩ : ∃ B : Nat, g % 40 - 2 + 4 = (B : Int) := ⟨(g % 40 - 2 + 4).toNat, by omega⟩
  have hA2 : A ≤ 41 := by omega
  have hB2 : B ≤ 41 := by omega
  have eA : areaF (regP p (w % 40 - 2) (g % 40 - 2)) = cntR (-2) (-2) A (hasP p (w % 40 - 2) (g % 40 - 2)) B 0 := by
    rw [cntR_end, areaF_gridR (x0 := -2) (y0 := -2) (w := A) (h := B) bx.can (by omega) (by omega), gridR_congr hR]
    intro r hr
    obtain ⟨⟨a1, a2, a3⟩, a4, a5, a6⟩ := bx.can.cnt r hr
    have q1 : hasR (regP p (w % 40 - 2) (g % 40 - 2)) r.x r.y = true := hasR_iff.2 ⟨r, hr, by unfold RC.has; omega⟩
    have q2 : hasR (regP p (w % 40 - 2) (g % 40 - 2)) (r.x + r.w - 1) (r.y + r.h - 1) = true := hasR_iff.2 ⟨r, hr, by unfold RC.has; omega⟩
    rw [hR] at q1 q2
    unfold hasP at q1 q2
    rw [Bool.and_eq_true, decide_eq_true_iff] at q1 q2
    omega
  rw [eA] at ar
  simp only [hR] at h1
  generalize regP p (w % 40 - 2) (g % 40 - 2) = R at *
  clear eA bx hR
  simp only [pn_enc] at *
  unfold regE at *
  refine ACalls.intro Try.func5 rfl Try.ntmps5 Try.results5 (Nat.le_of_ble_eq_true rfl) ?_
  (repeat' (first | (refine iS ?_; refine iMu ?_; refine S.mapU ?_) | refine svz ⟨fun b hq => ?_⟩ | refine sv1 ?_ | refine svs ⟨?_⟩ | refine svu ⟨fun u => ?_⟩ | (refine svg (fun hg => ?_) (fun hg => ?_) <;> try (exfalso; first | omega | contradiction)) | (refine svc (fun hc => ?_) (fun hc => ?_) <;> try (exfalso; first | omega | contradiction)) | refine sv2 ?_ | refine svh (fun hb => ?_) (fun hb => ?_) | refine svb (fun b => ?_) | refine sva ?_ | refine sv3 ?_))
  revert b; intro b3
  generalize hasP p (w % 40 - 2) (g % 40 - 2) = P0 at *
  generalize w % 40 - 2 = m at *
  generalize g % 40 - 2 = n at *
  refine S.call ?_; refine (fw _).mono ?_; rintro r h' ⟨rfl, hh⟩; subst hh
  (repeat' (first | (refine iS ?_; refine iMu ?_; refine S.mapU ?_) | refine svz ⟨fun b hq => ?_⟩ | refine sv1 ?_ | refine svs ⟨?_⟩ | refine svu ⟨fun u => ?_⟩ | (refine svg (fun hg => ?_) (fun hg => ?_) <;> try (exfalso; first | omega | contradiction)) | (refine svc (fun hc => ?_) (fun hc => ?_) <;> try (exfalso; first | omega | contradiction)) | refine sv2 ?_ | refine svh (fun hb => ?_) (fun hb => ?_) | refine svb (fun b => ?_) | refine sva ?_ | refine sv3 ?_))
  refine S.call ?_; refine (r1 _).mono ?_; rintro r h' ⟨rfl, hh⟩; subst hh
  (repeat' (first | (refine iS ?_; refine iMu ?_; refine S.mapU ?_) | refine svz ⟨fun b hq => ?_⟩ | refine sv1 ?_ | refine svs ⟨?_⟩ | refine svu ⟨fun u => ?_⟩ | (refine svg (fun hg => ?_) (fun hg => ?_) <;> try (exfalso; first | omega | contradiction)) | (refine svc (fun hc => ?_) (fun hc => ?_) <;> try (exfalso; first | omega | contradiction)) | refine sv2 ?_ | refine svh (fun hb => ?_) (fun hb => ?_) | refine svb (fun b => ?_) | refine sva ?_ | refine sv3 ?_))
  revert b; intro b9
  refine S.call ?_; refine (o1 _).mono ?_; rintro r h' ⟨rfl, hh⟩; subst hh
  (repeat' (first | (refine iS ?_; refine iMu ?_; refine S.mapU ?_) | refine svz ⟨fun b hq => ?_⟩ | refine sv1 ?_ | refine svs ⟨?_⟩ | refine svu ⟨fun u => ?_⟩ | (refine svg (fun hg => ?_) (fun hg => ?_) <;> try (exfalso; first | omega | contradiction)) | (refine svc (fun hc => ?_) (fun hc => ?_) <;> try (exfalso; first | omega | contradiction)) | refine sv2 ?_ | refine svh (fun hb => ?_) (fun hb => ?_) | refine svb (fun b => ?_) | refine sva ?_ | refine sv3 ?_))
  refine S.call ?_; refine (c2 _).mono ?_; rintro r h' ⟨rfl, hh⟩; subst hh
  (repeat' (first | (refine iS ?_; refine iMu ?_; refine S.mapU ?_) | refine svz ⟨fun b hq => ?_⟩ | refine sv1 ?_ | refine svs ⟨?_⟩ | refine svu ⟨fun u => ?_⟩ | (refine svg (fun hg => ?_) (fun hg => ?_) <;> try (exfalso; first | omega | contradiction)) | (refine svc (fun hc => ?_) (fun hc => ?_) <;> try (exfalso; first | omega | contradiction)) | refine sv2 ?_ | refine svh (fun hb => ?_) (fun hb => ?_) | refine svb (fun b => ?_) | refine sva ?_ | refine sv3 ?_))
  clear fw r1 c2
  refine W.loop (J := fun i : Nat => ⟨74, [(11, .val (.int .i64 ((i : Int) - 2))), (10, .val (.int .i64 ((cntR (-2) (-2) A P0 i 0)))), (9, .val (.pointer (some ⟨b9, 0, none⟩))), (8, .val (.int .i64 (n))), (7, .val (.int .i64 (m))), (3, .val (.pointer (some ⟨b3, 0, none⟩)))], .box b9 [.ro 4 (R.map RC.enc)] 46 :: .box b3 [.val (.int .i64 (p.fn)), .val (.int .u8 (p.pl)), .val (.int .u8 (p.fo)), .val (.int .u8 (p.ba)), .val (.int .u32 p.ft), .val (.int .i64 (p.x)), .val (.int .i64 (p.y)), .val (.bool p.cl), .ro 4 (p.clip.map RC.enc)] 27 :: []⟩)
    (Φ := fun i => i ≤ B) (μ := fun i => B - i) 0 lee (Nat.zero_le _) ?_
  intro i hi
  rcases Nat.lt_or_ge i B with hil | hig
  · have e1 : (cntR (-2) (-2) A P0 i 0) = (cntR (-2) (-2) A P0 i 0) := rfl
    have nx : (cntR (-2) (-2) A P0 (i + 1) 0) = (cntR (-2) (-2) A P0 i A) := cntR_i
    have nx : Hold _ := ⟨nx⟩
    have hi1 : ((i + 1 : Nat) : Int) - 2 = (i : Int) - 2 + 1 := by omega
    (repeat' (first | (refine iS ?_; refine iMu ?_; refine S.mapU ?_) | refine svz ⟨fun b hq => ?_⟩ | refine sv1 ?_ | refine svs ⟨?_⟩ | refine svu ⟨fun u => ?_⟩ | (refine svg (fun hg => ?_) (fun hg => ?_) <;> try (exfalso; first | omega | contradiction)) | (refine svc (fun hc => ?_) (fun hc => ?_) <;> try (exfalso; first | omega | contradiction)) | refine sv2 ?_ | refine svh (fun hb => ?_) (fun hb => ?_) | refine svb (fun b => ?_) | refine sva ?_ | refine sv3 ?_))
    refine W.loop (J := fun j : Nat => ⟨74, [(12, .val (.int .i64 ((j : Int) - 2))), (11, .val (.int .i64 ((i : Int) - 2))), (10, .val (.int .i64 ((cntR (-2) (-2) A P0 i j)))), (9, .val (.pointer (some ⟨b9, 0, none⟩))), (8, .val (.int .i64 (n))), (7, .val (.int .i64 (m))), (3, .val (.pointer (some ⟨b3, 0, none⟩)))], .box b9 [.ro 4 (R.map RC.enc)] 46 :: .box b3 [.val (.int .i64 (p.fn)), .val (.int .u8 (p.pl)), .val (.int .u8 (p.fo)), .val (.int .u8 (p.ba)), .val (.int .u32 p.ft), .val (.int .i64 (p.x)), .val (.int .i64 (p.y)), .val (.bool p.cl), .ro 4 (p.clip.map RC.enc)] 27 :: []⟩)
      (Φ := fun j => j ≤ A) (μ := fun j => A - j) 0 lee (Nat.zero_le _) ?_
    intro j hj
    rcases Nat.lt_or_ge j A with hjl | hjg
    · have t1 := cntR_in (x0 := -2) (y0 := -2) (w := A) (p := P0) (i := i) (j := j)
      have t2 : i * A ≤ 41 * 41 := Nat.mul_le_mul (by omega) hA2
      have s1 := cntR_j (x0 := -2) (y0 := -2) (w := A) (p := P0) (i := i) (j := j)
      rw [show (-2 : Int) + (j : Int) = (j : Int) - 2 by omega, show (-2 : Int) + (i : Int) = (i : Int) - 2 by omega] at s1
      have hj1 : ((j + 1 : Nat) : Int) - 2 = (j : Int) - 2 + 1 := by omega
      have h1' := h1 ((j : Int) - 2) ((i : Int) - 2)
      have h2' := h2 ((j : Int) - 2) ((i : Int) - 2)
      generalize P0 ((j : Int) - 2) ((i : Int) - 2) = v at *
      generalize (cntR (-2) (-2) A P0 i j) = S0 at *
      have s1 : Hold _ := ⟨s1⟩
      clear h1 h2
      (repeat' (first | (refine iS ?_; refine iMu ?_; refine S.mapU ?_) | refine svz ⟨fun b hq => ?_⟩ | refine sv1 ?_ | refine svs ⟨?_⟩ | refine svu ⟨fun u => ?_⟩ | (refine svg (fun hg => ?_) (fun hg => ?_) <;> try (exfalso; first | omega | contradiction)) | (refine svc (fun hc => ?_) (fun hc => ?_) <;> try (exfalso; first | omega | contradiction)) | refine sv2 ?_ | refine svh (fun hb => ?_) (fun hb => ?_) | refine svb (fun b => ?_) | refine sva ?_ | refine sv3 ?_))
      refine S.call ?_; refine (o1 _).mono ?_; rintro r h' ⟨rfl, hh⟩; subst hh
      (repeat' (first | (refine iS ?_; refine iMu ?_; refine S.mapU ?_) | refine svz ⟨fun b hq => ?_⟩ | refine sv1 ?_ | refine svs ⟨?_⟩ | refine svu ⟨fun u => ?_⟩ | (refine svg (fun hg => ?_) (fun hg => ?_) <;> try (exfalso; first | omega | contradiction)) | (refine svc (fun hc => ?_) (fun hc => ?_) <;> try (exfalso; first | omega | contradiction)) | refine sv2 ?_ | refine svh (fun hb => ?_) (fun hb => ?_) | refine svb (fun b => ?_) | refine sva ?_ | refine sv3 ?_))
      refine S.call ?_; refine (h2' _).mono ?_; rintro r h' ⟨rfl, hh⟩; subst hh
      (repeat' (first | (refine iS ?_; refine iMu ?_; refine S.mapU ?_) | refine svz ⟨fun b hq => ?_⟩ | refine sv1 ?_ | refine svs ⟨?_⟩ | refine svu ⟨fun u => ?_⟩ | (refine svg (fun hg => ?_) (fun hg => ?_) <;> try (exfalso; first | omega | contradiction)) | (refine svc (fun hc => ?_) (fun hc => ?_) <;> try (exfalso; first | omega | contradiction)) | refine sv2 ?_ | refine svh (fun hb => ?_) (fun hb => ?_) | refine svb (fun b => ?_) | refine sva ?_ | refine sv3 ?_))
      refine S.call ?_; refine (h1' _).mono ?_; rintro r h' ⟨rfl, hh⟩; subst hh
      cases v with
      | false =>
        (repeat' (first | (refine iS ?_; refine iMu ?_; refine S.mapU ?_) | refine svz ⟨fun b hq => ?_⟩ | refine sv1 ?_ | refine svs ⟨?_⟩ | refine svu ⟨fun u => ?_⟩ | (refine svg (fun hg => ?_) (fun hg => ?_) <;> try (exfalso; first | omega | contradiction)) | (refine svc (fun hc => ?_) (fun hc => ?_) <;> try (exfalso; first | omega | contradiction)) | refine sv2 ?_ | refine svh (fun hb => ?_) (fun hb => ?_) | refine svb (fun b => ?_) | refine sva ?_ | refine sv3 ?_))
        exact ⟨j + 1, hjl, by rw [s1.out, hj1, show ind false = 0 from rfl, Int.add_zero]; exact lee, by omega⟩
      | true =>
        (repeat' (first | (refine iS ?_; refine iMu ?_; refine S.mapU ?_) | refine svz ⟨fun b hq => ?_⟩ | refine sv1 ?_ | refine svs ⟨?_⟩ | refine svu ⟨fun u => ?_⟩ | (refine svg (fun hg => ?_) (fun hg => ?_) <;> try (exfalso; first | omega | contradiction)) | (refine svc (fun hc => ?_) (fun hc => ?_) <;> try (exfalso; first | omega | contradiction)) | refine sv2 ?_ | refine svh (fun hb => ?_) (fun hb => ?_) | refine svb (fun b => ?_) | refine sva ?_ | refine sv3 ?_))
        exact ⟨j + 1, hjl, by rw [s1.out, hj1, show ind true = 1 from rfl]; exact lee, by omega⟩
    · have e : j = A := by omega
      subst e
      (repeat' (first | (refine iS ?_; refine iMu ?_; refine S.mapU ?_) | refine svz ⟨fun b hq => ?_⟩ | refine sv1 ?_ | refine svs ⟨?_⟩ | refine svu ⟨fun u => ?_⟩ | (refine svg (fun hg => ?_) (fun hg => ?_) <;> try (exfalso; first | omega | contradiction)) | (refine svc (fun hc => ?_) (fun hc => ?_) <;> try (exfalso; first | omega | contradiction)) | refine sv2 ?_ | refine svh (fun hb => ?_) (fun hb => ?_) | refine svb (fun b => ?_) | refine sva ?_ | refine sv3 ?_))
      exact ⟨i + 1, hil, by rw [nx.out, hi1]; exact lee, by omega⟩
  · have e : i = B := by omega
    subst e
    (repeat' (first | (refine iS ?_; refine iMu ?_; refine S.mapU ?_) | refine svz ⟨fun b hq => ?_⟩ | refine sv1 ?_ | refine svs ⟨?_⟩ | refine svu ⟨fun u => ?_⟩ | (refine svg (fun hg => ?_) (fun hg => ?_) <;> try (exfalso; first | omega | contradiction)) | (refine svc (fun hc => ?_) (fun hc => ?_) <;> try (exfalso; first | omega | contradiction)) | refine sv2 ?_ | refine svh (fun hb => ?_) (fun hb => ?_) | refine svb (fun b => ?_) | refine sva ?_ | refine sv3 ?_))
    refine S.call ?_; refine (awake_c _).mono ?_; rintro r h' ⟨rfl, hh⟩; subst hh
    (repeat' (first | (refine iS ?_; refine iMu ?_; refine S.mapU ?_) | refine svz ⟨fun b hq => ?_⟩ | refine sv1 ?_ | refine svs ⟨?_⟩ | refine svu ⟨fun u => ?_⟩ | (refine svg (fun hg => ?_) (fun hg => ?_) <;> try (exfalso; first | omega | contradiction)) | (refine svc (fun hc => ?_) (fun hc => ?_) <;> try (exfalso; first | omega | contradiction)) | refine sv2 ?_ | refine svh (fun hb => ?_) (fun hb => ?_) | refine svb (fun b => ?_) | refine sva ?_ | refine sv3 ?_))
    refine S.call ?_; refine (ar _).mono ?_; rintro r h' ⟨rfl, hh⟩; subst hh
    (repeat' (first | (refine iS ?_; refine iMu ?_; refine S.mapU ?_) | refine svz ⟨fun b hq => ?_⟩ | refine sv1 ?_ | refine svs ⟨?_⟩ | refine svu ⟨fun u => ?_⟩ | (refine svg (fun hg => ?_) (fun hg => ?_) <;> try (exfalso; first | omega | contradiction)) | (refine svc (fun hc => ?_) (fun hc => ?_) <;> try (exfalso; first | omega | contradiction)) | refine sv2 ?_ | refine svh (fun hb => ?_) (fun hb => ?_) | refine svb (fun b => ?_) | refine sva ?_ | refine sv3 ?_))
    refine fin_r (h' := _) ?_
    rw [decide_eq_true rfl]; rfl
theorem regions_row : ∀ l, FitAll maxLen [.fld 1 (.int .i64) (.fld 1 (.int .u8) (.fld 1 (.int .u8) (.fld 1 (.int .u8) (.fld 1 (.int .u32) (.fld 1 (.int .i64) (.fld 1 (.int .i64) (.fld 1 (.bool) (.fld 1 (.sl 4 (.fld 1 (.int .i64) (.fld 1 (.int .i64) (.fld 1 (.int .i64) (.fld 1 (.int .i64) (.nil)))))) (.nil))))))))), .int .u8, .int .u8] l → ACalls Try.prog 5 l [] (fun r h' => r = .val (.bool true)) := by
  rintro l ⟨x, _, rfl, hx, y, _, rfl, hy, z, _, rfl, hz, rfl⟩
  obtain ⟨p, rfl, hp⟩ := pn_fit hx
  obtain ⟨m, rfl, hm⟩ := fit_int hy
  obtain ⟨n, rfl, hn⟩ := fit_int hz
  exact regions_c p m n hp (wf_u8 hm) (wf_u8 hn)
end Go.Proofs.Ytmfbfbhkjclhkaa
