/- ArcDiscs. No condition. -/
import Derived.Test.YtmkpffckhdofbaaA9
namespace Go.Proofs.Ytmkpffckhdofbaa
open Go Go.VM
attribute [local irreducible] PurV Pur Step RL W D ACalls Then InBlock Fini
set_option linter.unusedVariables false
set_option linter.unusedSimpArgs false
set_option maxHeartbeats 20000000
theorem disc_small {r : RC} (hw : 0 ≤ r.w ∧ r.w ≤ 23) (hh : 0 ≤ r.h ∧ r.h ≤ 23) : (discF r).length ≤ 529 := by
  have := len_box (disc_can r) (by omega) (by omega) (disc_inb r)
  have := mul_abs (a := r.w) (b := r.h) (A := 23) (B := 23) (by omega) (by omega)
  omega
theorem ring_small {r : RC} (hw : 0 ≤ r.w ∧ r.w ≤ 23) (hh : 0 ≤ r.h ∧ r.h ≤ 23) : (ringF r).length ≤ 529 := by
  have := len_box (ring_can r) (by omega) (by omega) (ring_inb r)
  have := mul_abs (a := r.w) (b := r.h) (A := 23) (B := 23) (by omega) (by omega)
  omega
set_option maxRecDepth 100000 in
theorem discs_c (o : Ov) (ok : o.ok) : ACalls Try.prog 6 [o.enc] [] (fun r h' => r = .val (.bool true)) := by
  have hr := fun h => rect_c o h ok
  have rok := Ov.rok ok
  have rb := Ov.rb ok
  show ACalls Try.prog 6 [.agg [.val (.int .i16 o.x), .val (.int .i16 o.y), .val (.int .u8 o.w), .val (.int .u8 o.h)]] [] _
  have hr' : ∀ h, ACalls Try.prog 9 [.agg [.val (.int .i16 o.x), .val (.int .i16 o.y), .val (.int .u8 o.w), .val (.int .u8 o.h)]] h (fun v h' => v = o.rc.enc ∧ h' = h) := hr
  clear hr
  generalize o.rc = r at *
  have d0 := fun h => disc_c r h rok
  have g0 := fun h => ring_c r h rok
  have w0 := fun h => wrong_c r h rok
  have hE : r.enc = .agg [.val (.int .i64 r.x), .val (.int .i64 r.y), .val (.int .i64 r.w), .val (.int .i64 r.h)] := rfl
  rw [hE] at hr' d0 g0 w0
  by_cases hk : aok r
  · have cD := disc_can r
    have cG := ring_can r
    have lD := disc_small (r := r) (by omega) (by omega)
    have lG := ring_small (r := r) (by omega) (by omega)
    have aD : areaF (discF r) = (cntR (r.x - 1) (r.y - 1) (r.w.toNat + 2) (insF r) (r.h.toNat + 2) 0) := by
      rw [cntR_end, areaF_gridR (x0 := r.x - 1) (y0 := r.y - 1) (w := r.w.toNat + 2) (h := r.h.toNat + 2) cD (by omega) (by omega) (fun q hq => by have := disc_inb r q hq; push_cast; omega)]
      exact gridR_congr (discF_has r)
    have aG : areaF (ringF r) = (cntR (r.x - 1) (r.y - 1) (r.w.toNat + 2) (onF r) (r.h.toNat + 2) 0) := by
      rw [cntR_end, areaF_gridR (x0 := r.x - 1) (y0 := r.y - 1) (w := r.w.toNat + 2) (h := r.h.toNat + 2) cG (by omega) (by omega) (fun q hq => by have := ring_inb r q hq; push_cast; omega)]
      exact gridR_congr (ringF_has r)
    rw [errF_0.2 hk] at d0 g0 w0
    have i0 := fun x y h => rinside_c r x y h rok
    have n0 := fun x y h hx hy => ron_c r x y h rok hx hy
    rw [hE] at i0 n0
    have hD := fun x y h => bhas_c (discF r) x y h (by omega) cD.cnt cD.y
    have hG := fun x y h => bhas_c (ringF r) x y h (by omega) cG.cnt cG.y
    simp only [discF_has] at hD
    simp only [ringF_has] at hG
    have rD := fun h => barea_c (discF r) h (by omega) (fun q hq => (cD.cnt q hq).sm)
    have rG := fun h => barea_c (ringF r) h (by omega) (fun q hq => (cG.cnt q hq).sm)
    rw [aD] at rD
    rw [aG] at rG
    clear aD aG lD lG cD cG hk
    generalize discF r = D at *
    generalize ringF r = G at *
    unfold regE at *
    refine ACalls.intro Try.func6 rfl Try.ntmps6 Try.results6 (Nat.le_of_ble_eq_true rfl) ?_
    (repeat' (first | (refine iS ?_; refine iMu ?_; refine S.mapU ?_) | refine svz ⟨fun b hq => ?_⟩ | refine sv1 ?_ | refine svs ⟨?_⟩ | refine svu ⟨fun u => ?_⟩ | (refine svg (fun hg => ?_) (fun hg => ?_) <;> try (exfalso; first | omega | contradiction)) | (refine svc (fun hc => ?_) (fun hc => ?_) <;> try (exfalso; first | omega | contradiction)) | refine sv2 ?_ | refine svh (fun hb => ?_) (fun hb => ?_) | refine svb (fun b => ?_) | refine sva ?_ | refine sv3 ?_))
    refine S.call ?_; refine (hr' _).mono ?_; rintro r h' ⟨rfl, hh⟩; subst hh
    (repeat' (first | (refine iS ?_; refine iMu ?_; refine S.mapU ?_) | refine svz ⟨fun b hq => ?_⟩ | refine sv1 ?_ | refine svs ⟨?_⟩ | refine svu ⟨fun u => ?_⟩ | (refine svg (fun hg => ?_) (fun hg => ?_) <;> try (exfalso; first | omega | contradiction)) | (refine svc (fun hc => ?_) (fun hc => ?_) <;> try (exfalso; first | omega | contradiction)) | refine sv2 ?_ | refine svh (fun hb => ?_) (fun hb => ?_) | refine svb (fun b => ?_) | refine sva ?_ | refine sv3 ?_))
    revert b; intro b3
    refine S.call ?_; refine (d0 _).mono ?_; rintro r h' ⟨rfl, hh⟩; subst hh
    (repeat' (first | (refine iS ?_; refine iMu ?_; refine S.mapU ?_) | refine svz ⟨fun b hq => ?_⟩ | refine sv1 ?_ | refine svs ⟨?_⟩ | refine svu ⟨fun u => ?_⟩ | (refine svg (fun hg => ?_) (fun hg => ?_) <;> try (exfalso; first | omega | contradiction)) | (refine svc (fun hc => ?_) (fun hc => ?_) <;> try (exfalso; first | omega | contradiction)) | refine sv2 ?_ | refine svh (fun hb => ?_) (fun hb => ?_) | refine svb (fun b => ?_) | refine sva ?_ | refine sv3 ?_))
    revert b; intro b4
    refine S.call ?_; refine (g0 _).mono ?_; rintro r h' ⟨rfl, hh⟩; subst hh
    (repeat' (first | (refine iS ?_; refine iMu ?_; refine S.mapU ?_) | refine svz ⟨fun b hq => ?_⟩ | refine sv1 ?_ | refine svs ⟨?_⟩ | refine svu ⟨fun u => ?_⟩ | (refine svg (fun hg => ?_) (fun hg => ?_) <;> try (exfalso; first | omega | contradiction)) | (refine svc (fun hc => ?_) (fun hc => ?_) <;> try (exfalso; first | omega | contradiction)) | refine sv2 ?_ | refine svh (fun hb => ?_) (fun hb => ?_) | refine svb (fun b => ?_) | refine sva ?_ | refine sv3 ?_))
    revert b; intro b6
    refine S.call ?_; refine (w0 _).mono ?_; rintro r h' ⟨rfl, hh⟩; subst hh
    (repeat' (first | (refine iS ?_; refine iMu ?_; refine S.mapU ?_) | refine svz ⟨fun b hq => ?_⟩ | refine sv1 ?_ | refine svs ⟨?_⟩ | refine svu ⟨fun u => ?_⟩ | (refine svg (fun hg => ?_) (fun hg => ?_) <;> try (exfalso; first | omega | contradiction)) | (refine svc (fun hc => ?_) (fun hc => ?_) <;> try (exfalso; first | omega | contradiction)) | refine sv2 ?_ | refine svh (fun hb => ?_) (fun hb => ?_) | refine svb (fun b => ?_) | refine sva ?_ | refine sv3 ?_))
    refine W.loop (J := fun i : Nat => ⟨125, [(11, .val (.int .i64 (r.y - 1 + (i : Int)))), (10, .val (.int .i64 (cntR (r.x - 1) (r.y - 1) (r.w.toNat + 2) (onF r) i 0))), (9, .val (.int .i64 (cntR (r.x - 1) (r.y - 1) (r.w.toNat + 2) (insF r) i 0))), (7, .val (.int .i64 0)), (6, .val (.pointer (some ⟨b6, 0, none⟩))), (5, .val (.int .i64 0)), (4, .val (.pointer (some ⟨b4, 0, none⟩))), (3, .val (.pointer (some ⟨b3, 0, none⟩)))], [.box b6 [.ro 4 (G.map RC.enc)] 36, .box b4 [.ro 4 (D.map RC.enc)] 36, .box b3 [.val (.int .i64 r.x), .val (.int .i64 r.y), .val (.int .i64 r.w), .val (.int .i64 r.h)] 26]⟩)
      (Φ := fun i => i ≤ r.h.toNat + 2) (μ := fun i => r.h.toNat + 2 - i) 0 (by rw [show r.y - 1 + ((0 : Nat) : Int) = r.y - 1 by omega]; exact ⟨rfl, (by repeat (first | exact LeT.nil | refine LeT.cons rfl ?_ | refine LeT.consw rfl (by (repeat (first | exact Wk.refl _ | exact Wk.nilr _ | exact Wk.nilm | apply Wk.aggc | apply Wk.tupc | exact Wk.aggn | exact Wk.tupn)); first | done | fail) ?_)), (by repeat (first | exact LeH.refl _ | exact LeH.nil _ | refine LeH.cons (by (fail_if_success (apply tkG)); (repeat (first | exact Tk.here | apply Tk.there)); first | done | fail) ?_ | refine LeH.boxw (by (fail_if_success (apply tkG)); (repeat (first | exact Tk.here | apply Tk.there)); first | done | fail) (by (repeat (first | exact Wk.refl _ | exact Wk.nilr _ | exact Wk.nilm | apply Wk.aggc | apply Wk.tupc | exact Wk.aggn | exact Wk.tupn)); first | done | fail) ?_ | refine LeH.skip ?_))⟩) (Nat.zero_le _) ?_
    intro i hi
    rcases Nat.lt_or_ge i (r.h.toNat + 2) with hlt | hge
    · have ei : r.y - 1 + (i : Int) + 1 = r.y - 1 + ((i + 1 : Nat) : Int) := by omega
      (repeat' (first | (refine iS ?_; refine iMu ?_; refine S.mapU ?_) | refine svz ⟨fun b hq => ?_⟩ | refine sv1 ?_ | refine svs ⟨?_⟩ | refine svu ⟨fun u => ?_⟩ | (refine svg (fun hg => ?_) (fun hg => ?_) <;> try (exfalso; first | omega | contradiction)) | (refine svc (fun hc => ?_) (fun hc => ?_) <;> try (exfalso; first | omega | contradiction)) | refine sv2 ?_ | refine svh (fun hb => ?_) (fun hb => ?_) | refine svb (fun b => ?_) | refine sva ?_ | refine sv3 ?_))
      refine W.loop (J := fun j : Nat => ⟨125, [(12, .val (.int .i64 (r.x - 1 + (j : Int)))), (11, .val (.int .i64 (r.y - 1 + (i : Int)))), (10, .val (.int .i64 (cntR (r.x - 1) (r.y - 1) (r.w.toNat + 2) (onF r) i j))), (9, .val (.int .i64 (cntR (r.x - 1) (r.y - 1) (r.w.toNat + 2) (insF r) i j))), (7, .val (.int .i64 0)), (6, .val (.pointer (some ⟨b6, 0, none⟩))), (5, .val (.int .i64 0)), (4, .val (.pointer (some ⟨b4, 0, none⟩))), (3, .val (.pointer (some ⟨b3, 0, none⟩)))], [.box b6 [.ro 4 (G.map RC.enc)] 36, .box b4 [.ro 4 (D.map RC.enc)] 36, .box b3 [.val (.int .i64 r.x), .val (.int .i64 r.y), .val (.int .i64 r.w), .val (.int .i64 r.h)] 26]⟩)
        (Φ := fun j => j ≤ r.w.toNat + 2) (μ := fun j => r.w.toNat + 2 - j) 0 (by rw [show r.x - 1 + ((0 : Nat) : Int) = r.x - 1 by omega]; exact ⟨rfl, (by repeat (first | exact LeT.nil | refine LeT.cons rfl ?_ | refine LeT.consw rfl (by (repeat (first | exact Wk.refl _ | exact Wk.nilr _ | exact Wk.nilm | apply Wk.aggc | apply Wk.tupc | exact Wk.aggn | exact Wk.tupn)); first | done | fail) ?_)), (by repeat (first | exact LeH.refl _ | exact LeH.nil _ | refine LeH.cons (by (fail_if_success (apply tkG)); (repeat (first | exact Tk.here | apply Tk.there)); first | done | fail) ?_ | refine LeH.boxw (by (fail_if_success (apply tkG)); (repeat (first | exact Tk.here | apply Tk.there)); first | done | fail) (by (repeat (first | exact Wk.refl _ | exact Wk.nilr _ | exact Wk.nilm | apply Wk.aggc | apply Wk.tupc | exact Wk.aggn | exact Wk.tupn)); first | done | fail) ?_ | refine LeH.skip ?_))⟩) (Nat.zero_le _) ?_
      intro j hj
      rcases Nat.lt_or_ge j (r.w.toNat + 2) with hlt2 | hge2
      · have ej : r.x - 1 + (j : Int) + 1 = r.x - 1 + ((j + 1 : Nat) : Int) := by omega
        have t1 := cntR_in (x0 := r.x - 1) (y0 := r.y - 1) (w := r.w.toNat + 2) (p := insF r) (i := i) (j := j)
        have t2 := cntR_in (x0 := r.x - 1) (y0 := r.y - 1) (w := r.w.toNat + 2) (p := onF r) (i := i) (j := j)
        have s1 := cntR_j (x0 := r.x - 1) (y0 := r.y - 1) (w := r.w.toNat + 2) (p := insF r) (i := i) (j := j)
        have s2 := cntR_j (x0 := r.x - 1) (y0 := r.y - 1) (w := r.w.toNat + 2) (p := onF r) (i := i) (j := j)
        have hij : (i : Int) * ((r.w.toNat + 2 : Nat) : Int) ≤ 625 := by
          have := mul_abs (a := (i : Int)) (b := ((r.w.toNat + 2 : Nat) : Int)) (A := 25) (B := 25) (by omega) (by omega)
          omega
        have p1 := hD (r.x - 1 + (j : Int)) (r.y - 1 + (i : Int))
        have p2 := i0 (r.x - 1 + (j : Int)) (r.y - 1 + (i : Int))
        have p3 := hG (r.x - 1 + (j : Int)) (r.y - 1 + (i : Int))
        have p4 := fun h => n0 (r.x - 1 + (j : Int)) (r.y - 1 + (i : Int)) h (by omega) (by omega)
        generalize insF r (r.x - 1 + (j : Int)) (r.y - 1 + (i : Int)) = u at *
        generalize onF r (r.x - 1 + (j : Int)) (r.y - 1 + (i : Int)) = v at *
        generalize (cntR (r.x - 1) (r.y - 1) (r.w.toNat + 2) (insF r) i j) = N1 at *
        generalize (cntR (r.x - 1) (r.y - 1) (r.w.toNat + 2) (onF r) i j) = N2 at *
        clear hD hG i0 n0 hr' d0 g0 w0
        have bx : -40000 ≤ r.x - 1 + (j : Int) ∧ r.x - 1 + (j : Int) ≤ 40000 := by omega
        have cx : r.x - 1 + (j : Int) ≤ r.x + r.w := by omega
        have bw : (-40000 ≤ r.x ∧ r.x ≤ 40000) ∧ 0 ≤ r.w ∧ r.w ≤ 23 := by omega
        have bn : (0 ≤ N1 ∧ N1 ≤ 1000) ∧ 0 ≤ N2 ∧ N2 ≤ 1000 := by omega
        have E0 : Hold (j < r.w.toNat + 2 ∧ r.x - 1 + (j : Int) + 1 = r.x - 1 + ((j + 1 : Nat) : Int)) := ⟨hlt2, ej⟩
        have S1 : Hold (cntR (r.x - 1) (r.y - 1) (r.w.toNat + 2) (insF r) i (j + 1) = N1 + ind u) := ⟨s1⟩
        have S2 : Hold (cntR (r.x - 1) (r.y - 1) (r.w.toNat + 2) (onF r) i (j + 1) = N2 + ind v) := ⟨s2⟩
        clear s1 s2 t1 t2 hij ej ei hlt hlt2 rb rok ok hi hj
        have ht : (fun k : Nat => r.x - 1 + (k : Int)) = fun k : Nat => r.x - 1 + (k : Int) := rfl
        clear ht
        cases u <;> cases v <;> (
        have s1 := S1
        have s2 := S2
        clear S1 S2
        simp only [ind, if_true, if_false, Bool.false_eq_true, Int.add_zero] at s1 s2
        (repeat' (first | (refine iS ?_; refine iMu ?_; refine S.mapU ?_) | refine svz ⟨fun b hq => ?_⟩ | refine sv1 ?_ | refine svs ⟨?_⟩ | refine svu ⟨fun u => ?_⟩ | (refine svg (fun hg => ?_) (fun hg => ?_) <;> try (exfalso; first | omega | contradiction)) | (refine svc (fun hc => ?_) (fun hc => ?_) <;> try (exfalso; first | omega | contradiction)) | refine sv2 ?_ | refine svh (fun hb => ?_) (fun hb => ?_) | refine svb (fun b => ?_) | refine sva ?_ | refine sv3 ?_))
        refine R2.C (p1 _) ?_
        (repeat' (first | (refine iS ?_; refine iMu ?_; refine S.mapU ?_) | refine svz ⟨fun b hq => ?_⟩ | refine sv1 ?_ | refine svs ⟨?_⟩ | refine svu ⟨fun u => ?_⟩ | (refine svg (fun hg => ?_) (fun hg => ?_) <;> try (exfalso; first | omega | contradiction)) | (refine svc (fun hc => ?_) (fun hc => ?_) <;> try (exfalso; first | omega | contradiction)) | refine sv2 ?_ | refine svh (fun hb => ?_) (fun hb => ?_) | refine svb (fun b => ?_) | refine sva ?_ | refine sv3 ?_))
        refine R2.C (p2 _) ?_
        (repeat' (first | (refine iS ?_; refine iMu ?_; refine S.mapU ?_) | refine svz ⟨fun b hq => ?_⟩ | refine sv1 ?_ | refine svs ⟨?_⟩ | refine svu ⟨fun u => ?_⟩ | (refine svg (fun hg => ?_) (fun hg => ?_) <;> try (exfalso; first | omega | contradiction)) | (refine svc (fun hc => ?_) (fun hc => ?_) <;> try (exfalso; first | omega | contradiction)) | refine sv2 ?_ | refine svh (fun hb => ?_) (fun hb => ?_) | refine svb (fun b => ?_) | refine sva ?_ | refine sv3 ?_))
        refine R2.C (p3 _) ?_
        (repeat' (first | (refine iS ?_; refine iMu ?_; refine S.mapU ?_) | refine svz ⟨fun b hq => ?_⟩ | refine sv1 ?_ | refine svs ⟨?_⟩ | refine svu ⟨fun u => ?_⟩ | (refine svg (fun hg => ?_) (fun hg => ?_) <;> try (exfalso; first | omega | contradiction)) | (refine svc (fun hc => ?_) (fun hc => ?_) <;> try (exfalso; first | omega | contradiction)) | refine sv2 ?_ | refine svh (fun hb => ?_) (fun hb => ?_) | refine svb (fun b => ?_) | refine sva ?_ | refine sv3 ?_))
        refine R2.C (p4 _) ?_
        (repeat' (first | (refine iS ?_; refine iMu ?_; refine S.mapU ?_) | refine svz ⟨fun b hq => ?_⟩ | refine sv1 ?_ | refine svs ⟨?_⟩ | refine svu ⟨fun u => ?_⟩ | (refine svg (fun hg => ?_) (fun hg => ?_) <;> try (exfalso; first | omega | contradiction)) | (refine svc (fun hc => ?_) (fun hc => ?_) <;> try (exfalso; first | omega | contradiction)) | refine sv2 ?_ | refine svh (fun hb => ?_) (fun hb => ?_) | refine svb (fun b => ?_) | refine sva ?_ | refine sv3 ?_))
        refine S.call ?_; refine (p2 _).mono ?_; rintro r h' ⟨rfl, hh⟩; subst hh
        (repeat' (first | (refine iS ?_; refine iMu ?_; refine S.mapU ?_) | refine svz ⟨fun b hq => ?_⟩ | refine sv1 ?_ | refine svs ⟨?_⟩ | refine svu ⟨fun u => ?_⟩ | (refine svg (fun hg => ?_) (fun hg => ?_) <;> try (exfalso; first | omega | contradiction)) | (refine svc (fun hc => ?_) (fun hc => ?_) <;> try (exfalso; first | omega | contradiction)) | refine sv2 ?_ | refine svh (fun hb => ?_) (fun hb => ?_) | refine svb (fun b => ?_) | refine sva ?_ | refine sv3 ?_))
        refine S.call ?_; refine (p4 _).mono ?_; rintro r h' ⟨rfl, hh⟩; subst hh
        (repeat' (first | (refine iS ?_; refine iMu ?_; refine S.mapU ?_) | refine svz ⟨fun b hq => ?_⟩ | refine sv1 ?_ | refine svs ⟨?_⟩ | refine svu ⟨fun u => ?_⟩ | (refine svg (fun hg => ?_) (fun hg => ?_) <;> try (exfalso; first | omega | contradiction)) | (refine svc (fun hc => ?_) (fun hc => ?_) <;> try (exfalso; first | omega | contradiction)) | refine sv2 ?_ | refine svh (fun hb => ?_) (fun hb => ?_) | refine svb (fun b => ?_) | refine sva ?_ | refine sv3 ?_))
        rw [E0.out.2]
        have hlt2 := E0.out.1
        exact ⟨j + 1, hlt2, by rw [s1.out, s2.out]; exact ⟨rfl, (by repeat (first | exact LeT.nil | refine LeT.cons rfl ?_ | refine LeT.consw rfl (by (repeat (first | exact Wk.refl _ | exact Wk.nilr _ | exact Wk.nilm | apply Wk.aggc | apply Wk.tupc | exact Wk.aggn | exact Wk.tupn)); first | done | fail) ?_)), (by repeat (first | exact LeH.refl _ | exact LeH.nil _ | refine LeH.cons (by (fail_if_success (apply tkG)); (repeat (first | exact Tk.here | apply Tk.there)); first | done | fail) ?_ | refine LeH.boxw (by (fail_if_success (apply tkG)); (repeat (first | exact Tk.here | apply Tk.there)); first | done | fail) (by (repeat (first | exact Wk.refl _ | exact Wk.nilr _ | exact Wk.nilm | apply Wk.aggc | apply Wk.tupc | exact Wk.aggn | exact Wk.tupn)); first | done | fail) ?_ | refine LeH.skip ?_))⟩, by omega⟩)
      · have e : j = r.w.toNat + 2 := by omega
        subst e
        rw [← cntR_i, ← cntR_i]
        (repeat' (first | (refine iS ?_; refine iMu ?_; refine S.mapU ?_) | refine svz ⟨fun b hq => ?_⟩ | refine sv1 ?_ | refine svs ⟨?_⟩ | refine svu ⟨fun u => ?_⟩ | (refine svg (fun hg => ?_) (fun hg => ?_) <;> try (exfalso; first | omega | contradiction)) | (refine svc (fun hc => ?_) (fun hc => ?_) <;> try (exfalso; first | omega | contradiction)) | refine sv2 ?_ | refine svh (fun hb => ?_) (fun hb => ?_) | refine svb (fun b => ?_) | refine sva ?_ | refine sv3 ?_))
        rw [ei]
        exact ⟨i + 1, hlt, ⟨rfl, (by repeat (first | exact LeT.nil | refine LeT.cons rfl ?_ | refine LeT.consw rfl (by (repeat (first | exact Wk.refl _ | exact Wk.nilr _ | exact Wk.nilm | apply Wk.aggc | apply Wk.tupc | exact Wk.aggn | exact Wk.tupn)); first | done | fail) ?_)), (by repeat (first | exact LeH.refl _ | exact LeH.nil _ | refine LeH.cons (by (fail_if_success (apply tkG)); (repeat (first | exact Tk.here | apply Tk.there)); first | done | fail) ?_ | refine LeH.boxw (by (fail_if_success (apply tkG)); (repeat (first | exact Tk.here | apply Tk.there)); first | done | fail) (by (repeat (first | exact Wk.refl _ | exact Wk.nilr _ | exact Wk.nilm | apply Wk.aggc | apply Wk.tupc | exact Wk.aggn | exact Wk.tupn)); first | done | fail) ?_ | refine LeH.skip ?_))⟩, by omega⟩
    · have e : i = r.h.toNat + 2 := by omega
      subst e
      generalize (cntR (r.x - 1) (r.y - 1) (r.w.toNat + 2) (insF r) (r.h.toNat + 2) 0) = N1 at *
      generalize (cntR (r.x - 1) (r.y - 1) (r.w.toNat + 2) (onF r) (r.h.toNat + 2) 0) = N2 at *
      (repeat' (first | (refine iS ?_; refine iMu ?_; refine S.mapU ?_) | refine svz ⟨fun b hq => ?_⟩ | refine sv1 ?_ | refine svs ⟨?_⟩ | refine svu ⟨fun u => ?_⟩ | (refine svg (fun hg => ?_) (fun hg => ?_) <;> try (exfalso; first | omega | contradiction)) | (refine svc (fun hc => ?_) (fun hc => ?_) <;> try (exfalso; first | omega | contradiction)) | refine sv2 ?_ | refine svh (fun hb => ?_) (fun hb => ?_) | refine svb (fun b => ?_) | refine sva ?_ | refine sv3 ?_))
      refine S.call ?_; refine (rD _).mono ?_; rintro r h' ⟨rfl, hh⟩; subst hh
      (repeat' (first | (refine iS ?_; refine iMu ?_; refine S.mapU ?_) | refine svz ⟨fun b hq => ?_⟩ | refine sv1 ?_ | refine svs ⟨?_⟩ | refine svu ⟨fun u => ?_⟩ | (refine svg (fun hg => ?_) (fun hg => ?_) <;> try (exfalso; first | omega | contradiction)) | (refine svc (fun hc => ?_) (fun hc => ?_) <;> try (exfalso; first | omega | contradiction)) | refine sv2 ?_ | refine svh (fun hb => ?_) (fun hb => ?_) | refine svb (fun b => ?_) | refine sva ?_ | refine sv3 ?_))
      refine S.call ?_; refine (rG _).mono ?_; rintro r h' ⟨rfl, hh⟩; subst hh
      (repeat' (first | (refine iS ?_; refine iMu ?_; refine S.mapU ?_) | refine svz ⟨fun b hq => ?_⟩ | refine sv1 ?_ | refine svs ⟨?_⟩ | refine svu ⟨fun u => ?_⟩ | (refine svg (fun hg => ?_) (fun hg => ?_) <;> try (exfalso; first | omega | contradiction)) | (refine svc (fun hc => ?_) (fun hc => ?_) <;> try (exfalso; first | omega | contradiction)) | refine sv2 ?_ | refine svh (fun hb => ?_) (fun hb => ?_) | refine svb (fun b => ?_) | refine sva ?_ | refine sv3 ?_))
      refine S.call ?_; refine (awake_c _).mono ?_; rintro r h' ⟨rfl, hh⟩; subst hh
      (repeat' (first | (refine iS ?_; refine iMu ?_; refine S.mapU ?_) | refine svz ⟨fun b hq => ?_⟩ | refine sv1 ?_ | refine svs ⟨?_⟩ | refine svu ⟨fun u => ?_⟩ | (refine svg (fun hg => ?_) (fun hg => ?_) <;> try (exfalso; first | omega | contradiction)) | (refine svc (fun hc => ?_) (fun hc => ?_) <;> try (exfalso; first | omega | contradiction)) | refine sv2 ?_ | refine svh (fun hb => ?_) (fun hb => ?_) | refine svb (fun b => ?_) | refine sva ?_ | refine sv3 ?_))
      exact fin_r (h' := _) rfl
  · have e0 : errF r ≠ 0 := fun q => hk (errF_0.1 q)
    have e1 := fun h => empty_c (discF r) h
    have e2 := fun h => empty_c (ringF r) h
    simp only [disc_empty, decide_eq_true e0] at e1
    simp only [ring_empty, decide_eq_true e0] at e2
    generalize discF r = D at *
    generalize ringF r = G at *
    generalize errF r = e at *
    unfold regE at *
    refine ACalls.intro Try.func6 rfl Try.ntmps6 Try.results6 (Nat.le_of_ble_eq_true rfl) ?_
    (repeat' (first | (refine iS ?_; refine iMu ?_; refine S.mapU ?_) | refine svz ⟨fun b hq => ?_⟩ | refine sv1 ?_ | refine svs ⟨?_⟩ | refine svu ⟨fun u => ?_⟩ | (refine svg (fun hg => ?_) (fun hg => ?_) <;> try (exfalso; first | omega | contradiction)) | (refine svc (fun hc => ?_) (fun hc => ?_) <;> try (exfalso; first | omega | contradiction)) | refine sv2 ?_ | refine svh (fun hb => ?_) (fun hb => ?_) | refine svb (fun b => ?_) | refine sva ?_ | refine sv3 ?_))
    refine S.call ?_; refine (hr' _).mono ?_; rintro r h' ⟨rfl, hh⟩; subst hh
    (repeat' (first | (refine iS ?_; refine iMu ?_; refine S.mapU ?_) | refine svz ⟨fun b hq => ?_⟩ | refine sv1 ?_ | refine svs ⟨?_⟩ | refine svu ⟨fun u => ?_⟩ | (refine svg (fun hg => ?_) (fun hg => ?_) <;> try (exfalso; first | omega | contradiction)) | (refine svc (fun hc => ?_) (fun hc => ?_) <;> try (exfalso; first | omega | contradiction)) | refine sv2 ?_ | refine svh (fun hb => ?_) (fun hb => ?_) | refine svb (fun b => ?_) | refine sva ?_ | refine sv3 ?_))
    refine S.call ?_; refine (d0 _).mono ?_; rintro r h' ⟨rfl, hh⟩; subst hh
    (repeat' (first | (refine iS ?_; refine iMu ?_; refine S.mapU ?_) | refine svz ⟨fun b hq => ?_⟩ | refine sv1 ?_ | refine svs ⟨?_⟩ | refine svu ⟨fun u => ?_⟩ | (refine svg (fun hg => ?_) (fun hg => ?_) <;> try (exfalso; first | omega | contradiction)) | (refine svc (fun hc => ?_) (fun hc => ?_) <;> try (exfalso; first | omega | contradiction)) | refine sv2 ?_ | refine svh (fun hb => ?_) (fun hb => ?_) | refine svb (fun b => ?_) | refine sva ?_ | refine sv3 ?_))
    refine S.call ?_; refine (g0 _).mono ?_; rintro r h' ⟨rfl, hh⟩; subst hh
    (repeat' (first | (refine iS ?_; refine iMu ?_; refine S.mapU ?_) | refine svz ⟨fun b hq => ?_⟩ | refine sv1 ?_ | refine svs ⟨?_⟩ | refine svu ⟨fun u => ?_⟩ | (refine svg (fun hg => ?_) (fun hg => ?_) <;> try (exfalso; first | omega | contradiction)) | (refine svc (fun hc => ?_) (fun hc => ?_) <;> try (exfalso; first | omega | contradiction)) | refine sv2 ?_ | refine svh (fun hb => ?_) (fun hb => ?_) | refine svb (fun b => ?_) | refine sva ?_ | refine sv3 ?_))
    refine S.call ?_; refine (w0 _).mono ?_; rintro r h' ⟨rfl, hh⟩; subst hh
    (repeat' (first | (refine iS ?_; refine iMu ?_; refine S.mapU ?_) | refine svz ⟨fun b hq => ?_⟩ | refine sv1 ?_ | refine svs ⟨?_⟩ | refine svu ⟨fun u => ?_⟩ | (refine svg (fun hg => ?_) (fun hg => ?_) <;> try (exfalso; first | omega | contradiction)) | (refine svc (fun hc => ?_) (fun hc => ?_) <;> try (exfalso; first | omega | contradiction)) | refine sv2 ?_ | refine svh (fun hb => ?_) (fun hb => ?_) | refine svb (fun b => ?_) | refine sva ?_ | refine sv3 ?_))
    refine S.call ?_; refine (e1 _).mono ?_; rintro r h' ⟨rfl, hh⟩; subst hh
    (repeat' (first | (refine iS ?_; refine iMu ?_; refine S.mapU ?_) | refine svz ⟨fun b hq => ?_⟩ | refine sv1 ?_ | refine svs ⟨?_⟩ | refine svu ⟨fun u => ?_⟩ | (refine svg (fun hg => ?_) (fun hg => ?_) <;> try (exfalso; first | omega | contradiction)) | (refine svc (fun hc => ?_) (fun hc => ?_) <;> try (exfalso; first | omega | contradiction)) | refine sv2 ?_ | refine svh (fun hb => ?_) (fun hb => ?_) | refine svb (fun b => ?_) | refine sva ?_ | refine sv3 ?_))
    refine S.call ?_; refine (e2 _).mono ?_; rintro r h' ⟨rfl, hh⟩; subst hh
    (repeat' (first | (refine iS ?_; refine iMu ?_; refine S.mapU ?_) | refine svz ⟨fun b hq => ?_⟩ | refine sv1 ?_ | refine svs ⟨?_⟩ | refine svu ⟨fun u => ?_⟩ | (refine svg (fun hg => ?_) (fun hg => ?_) <;> try (exfalso; first | omega | contradiction)) | (refine svc (fun hc => ?_) (fun hc => ?_) <;> try (exfalso; first | omega | contradiction)) | refine sv2 ?_ | refine svh (fun hb => ?_) (fun hb => ?_) | refine svb (fun b => ?_) | refine sva ?_ | refine sv3 ?_))
    refine S.call ?_; refine (awake_c _).mono ?_; rintro r h' ⟨rfl, hh⟩; subst hh
    (repeat' (first | (refine iS ?_; refine iMu ?_; refine S.mapU ?_) | refine svz ⟨fun b hq => ?_⟩ | refine sv1 ?_ | refine svs ⟨?_⟩ | refine svu ⟨fun u => ?_⟩ | (refine svg (fun hg => ?_) (fun hg => ?_) <;> try (exfalso; first | omega | contradiction)) | (refine svc (fun hc => ?_) (fun hc => ?_) <;> try (exfalso; first | omega | contradiction)) | refine sv2 ?_ | refine svh (fun hb => ?_) (fun hb => ?_) | refine svb (fun b => ?_) | refine sva ?_ | refine sv3 ?_))
    exact fin_r (h' := _) rfl
end Go.Proofs.Ytmkpffckhdofbaa
