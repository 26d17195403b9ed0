/- ArcMoves. No condition. -/
import Derived.Test.YtmkpffckhdofbaaA10
namespace Go.Proofs.Ytmkpffckhdofbaa
open Go Go.VM
attribute [local irreducible] PurV Pur Step RL W D ACalls Then InBlock Fini
set_option linter.unusedVariables false
set_option linter.unusedSimpArgs false
set_option maxHeartbeats 20000000
theorem insE_move (r : RC) (dx dy x y : Int) : insE (shR dx dy r) (x + dx) (y + dy) = insE r x y := by
  unfold insE shR
  dsimp only
  rw [show x + dx - (r.x + dx) = x - r.x by omega, show y + dy - (r.y + dy) = y - r.y by omega]
theorem insF_move {r : RC} {dx dy : Int} (k : aok r) (k' : aok (shR dx dy r)) (x y : Int) : insF (shR dx dy r) (x + dx) (y + dy) = insF r x y := by
  by_cases h : inR r x y
  · rw [insF_yes k h, insF_yes k' (by unfold inR shR at *; dsimp only; omega), insE_move]
  · rw [insF_out h, insF_out (by unfold inR shR at *; dsimp only; omega)]
theorem disc_move {r : RC} {dx dy : Int} (k : aok r) (k' : aok (shR dx dy r)) (hb : ((-40000 ≤ r.x ∧ r.x ≤ 40000) ∧ -40000 ≤ r.y ∧ r.y ≤ 40000) ∧ r.w ≤ 23 ∧ r.h ≤ 23) (hd : (-1000 ≤ dx ∧ dx ≤ 1000) ∧ -1000 ≤ dy ∧ dy ≤ 1000) : discF (shR dx dy r) = (discF r).map (shR dx dy) := by
  have hc : Can ((discF r).map (shR dx dy)) := can_sh (disc_can r) fun q hq => by
    obtain ⟨p, hp, rfl⟩ := List.mem_map.1 hq
    have h1 := disc_inb r p hp
    obtain ⟨⟨_, h2, _⟩, _, h3, _⟩ := (disc_can r).cnt p hp
    unfold RC.cnt fitP shR
    dsimp only
    omega
  refine (disc_can _).eq hc fun x y => ?_
  have e := insF_move k k' (x - dx) (y - dy)
  rw [show x - dx + dx = x by omega, show y - dy + dy = y by omega] at e
  have e2 := has_sh (discF r) dx dy (x - dx) (y - dy)
  rw [show x - dx + dx = x by omega, show y - dy + dy = y by omega] at e2
  rw [discF_has, e, e2, discF_has]
set_option maxRecDepth 100000 in
theorem moves_c (o : Ov) (dx dy : Int) (ok : o.ok) (hdx : -128 ≤ dx ∧ dx ≤ 127) (hdy : -128 ≤ dy ∧ dy ≤ 127) : ACalls Try.prog 7 [o.enc, .val (.int .i8 dx), .val (.int .i8 dy)] [] (fun r h' => r = .val (.bool true)) := by
  have hr := fun h => rect_c o h ok
  have rok := Ov.rok ok
  have rb := Ov.rb ok
  show ACalls Try.prog 7 [.agg [.val (.int .i16 o.x), .val (.int .i16 o.y), .val (.int .u8 o.w), .val (.int .u8 o.h)], _, _] [] _
  have hr' : ∀ h, ACalls Try.prog 9 [.agg [.val (.int .i16 o.x), .val (.int .i16 o.y), .val (.int .u8 o.w), .val (.int .u8 o.h)]] h (fun v h' => v = o.rc.enc ∧ h' = h) := hr
  clear hr
  generalize o.rc = r at *
  have hE : r.enc = .agg [.val (.int .i64 r.x), .val (.int .i64 r.y), .val (.int .i64 r.w), .val (.int .i64 r.h)] := rfl
  by_cases h0 : r.w < 1
  · rw [hE] at hr'
    refine ACalls.intro Try.func7 rfl Try.ntmps7 Try.results7 (Nat.le_of_ble_eq_true rfl) ?_
    (repeat' (first | (refine iS ?_; refine iMu ?_; refine S.mapU ?_) | refine svz ⟨fun b hq => ?_⟩ | refine sv1 ?_ | refine svs ⟨?_⟩ | refine svu ⟨fun u => ?_⟩ | (refine svg (fun hg => ?_) (fun hg => ?_) <;> try (exfalso; first | omega | contradiction)) | (refine svc (fun hc => ?_) (fun hc => ?_) <;> try (exfalso; first | omega | contradiction)) | refine sv2 ?_ | refine svh (fun hb => ?_) (fun hb => ?_) | refine svb (fun b => ?_) | refine sva ?_ | refine sv3 ?_))
    refine S.call ?_; refine (hr' _).mono ?_; rintro r h' ⟨rfl, hh⟩; subst hh
    (repeat' (first | (refine iS ?_; refine iMu ?_; refine S.mapU ?_) | refine svz ⟨fun b hq => ?_⟩ | refine sv1 ?_ | refine svs ⟨?_⟩ | refine svu ⟨fun u => ?_⟩ | (refine svg (fun hg => ?_) (fun hg => ?_) <;> try (exfalso; first | omega | contradiction)) | (refine svc (fun hc => ?_) (fun hc => ?_) <;> try (exfalso; first | omega | contradiction)) | refine sv2 ?_ | refine svh (fun hb => ?_) (fun hb => ?_) | refine svb (fun b => ?_) | refine sva ?_ | refine sv3 ?_))
    refine S.call ?_; refine (awake_c _).mono ?_; rintro r h' ⟨rfl, hh⟩; subst hh
    (repeat' (first | (refine iS ?_; refine iMu ?_; refine S.mapU ?_) | refine svz ⟨fun b hq => ?_⟩ | refine sv1 ?_ | refine svs ⟨?_⟩ | refine svu ⟨fun u => ?_⟩ | (refine svg (fun hg => ?_) (fun hg => ?_) <;> try (exfalso; first | omega | contradiction)) | (refine svc (fun hc => ?_) (fun hc => ?_) <;> try (exfalso; first | omega | contradiction)) | refine sv2 ?_ | refine svh (fun hb => ?_) (fun hb => ?_) | refine svb (fun b => ?_) | refine sva ?_ | refine sv3 ?_))
    exact fin_r (h' := _) rfl
  by_cases h1 : r.h < 1
  · rw [hE] at hr'
    refine ACalls.intro Try.func7 rfl Try.ntmps7 Try.results7 (Nat.le_of_ble_eq_true rfl) ?_
    (repeat' (first | (refine iS ?_; refine iMu ?_; refine S.mapU ?_) | refine svz ⟨fun b hq => ?_⟩ | refine sv1 ?_ | refine svs ⟨?_⟩ | refine svu ⟨fun u => ?_⟩ | (refine svg (fun hg => ?_) (fun hg => ?_) <;> try (exfalso; first | omega | contradiction)) | (refine svc (fun hc => ?_) (fun hc => ?_) <;> try (exfalso; first | omega | contradiction)) | refine sv2 ?_ | refine svh (fun hb => ?_) (fun hb => ?_) | refine svb (fun b => ?_) | refine sva ?_ | refine sv3 ?_))
    refine S.call ?_; refine (hr' _).mono ?_; rintro r h' ⟨rfl, hh⟩; subst hh
    (repeat' (first | (refine iS ?_; refine iMu ?_; refine S.mapU ?_) | refine svz ⟨fun b hq => ?_⟩ | refine sv1 ?_ | refine svs ⟨?_⟩ | refine svu ⟨fun u => ?_⟩ | (refine svg (fun hg => ?_) (fun hg => ?_) <;> try (exfalso; first | omega | contradiction)) | (refine svc (fun hc => ?_) (fun hc => ?_) <;> try (exfalso; first | omega | contradiction)) | refine sv2 ?_ | refine svh (fun hb => ?_) (fun hb => ?_) | refine svb (fun b => ?_) | refine sva ?_ | refine sv3 ?_))
    refine S.call ?_; refine (awake_c _).mono ?_; rintro r h' ⟨rfl, hh⟩; subst hh
    (repeat' (first | (refine iS ?_; refine iMu ?_; refine S.mapU ?_) | refine svz ⟨fun b hq => ?_⟩ | refine sv1 ?_ | refine svs ⟨?_⟩ | refine svu ⟨fun u => ?_⟩ | (refine svg (fun hg => ?_) (fun hg => ?_) <;> try (exfalso; first | omega | contradiction)) | (refine svc (fun hc => ?_) (fun hc => ?_) <;> try (exfalso; first | omega | contradiction)) | refine sv2 ?_ | refine svh (fun hb => ?_) (fun hb => ?_) | refine svb (fun b => ?_) | refine sva ?_ | refine sv3 ?_))
    exact fin_r (h' := _) rfl
  have k : aok r := by unfold aok; omega
  have k' : aok (shR dx dy r) := by unfold aok shR; dsimp only; omega
  have hE' : (shR dx dy r).enc = .agg [.val (.int .i64 (r.x + dx)), .val (.int .i64 (r.y + dy)), .val (.int .i64 r.w), .val (.int .i64 r.h)] := rfl
  have d0 := fun h => disc_c r h rok
  have d1 := fun h => disc_c (shR dx dy r) h k'.ok
  have i0 := fun x y h => inside_c r x y h rok
  have i1 := fun x y h => inside_c (shR dx dy r) x y h k'.ok
  have cD := disc_can r
  have cE := disc_can (shR dx dy r)
  have lD := disc_small (r := r) (by omega) (by omega)
  have eDE := disc_move k k' (by omega) (by omega)
  have lE : (discF (shR dx dy r)).length ≤ 529 := by rw [eDE, List.length_map]; exact lD
  have aE : areaF (discF (shR dx dy r)) = areaF (discF r) := by rw [eDE, area_sh]
  have rD := fun h => barea_c (discF r) h (by omega) (fun q hq => (cD.cnt q hq).sm)
  have rE := fun h => barea_c (discF (shR dx dy r)) h (by omega) (fun q hq => (cE.cnt q hq).sm)
  rw [aE] at rE
  have hD := fun x y h => bhas_c (discF r) x y h (by omega) cD.cnt cD.y
  have hDE := fun x y h => bhas_c (discF (shR dx dy r)) (x + dx) (y + dy) h (by omega) cE.cnt cE.y
  have i2 := fun x y h => i1 (x + dx) (y + dy) h
  simp only [discF_has] at hD hDE
  simp only [insF_move k k'] at hDE i2
  rw [errF_0.2 k] at d0
  rw [errF_0.2 k'] at d1
  rw [hE] at hr' d0
  rw [hE'] at d1
  simp only [hE] at i0
  simp only [hE'] at i2
  clear i1 aE eDE lD lE cD cE k k'
  generalize discF r = D at *
  generalize discF (shR dx dy r) = E at *
  generalize areaF D = nA at *
  unfold regE at *
  refine ACalls.intro Try.func7 rfl Try.ntmps7 Try.results7 (Nat.le_of_ble_eq_true rfl) ?_
  (repeat' (first | (refine iS ?_; refine iMu ?_; refine S.mapU ?_) | refine svz ⟨fun b hq => ?_⟩ | refine sv1 ?_ | refine svs ⟨?_⟩ | refine svu ⟨fun u => ?_⟩ | (refine svg (fun hg => ?_) (fun hg => ?_) <;> try (exfalso; first | omega | contradiction)) | (refine svc (fun hc => ?_) (fun hc => ?_) <;> try (exfalso; first | omega | contradiction)) | refine sv2 ?_ | refine svh (fun hb => ?_) (fun hb => ?_) | refine svb (fun b => ?_) | refine sva ?_ | refine sv3 ?_))
  refine S.call ?_; refine (hr' _).mono ?_; rintro r h' ⟨rfl, hh⟩; subst hh
  (repeat' (first | (refine iS ?_; refine iMu ?_; refine S.mapU ?_) | refine svz ⟨fun b hq => ?_⟩ | refine sv1 ?_ | refine svs ⟨?_⟩ | refine svu ⟨fun u => ?_⟩ | (refine svg (fun hg => ?_) (fun hg => ?_) <;> try (exfalso; first | omega | contradiction)) | (refine svc (fun hc => ?_) (fun hc => ?_) <;> try (exfalso; first | omega | contradiction)) | refine sv2 ?_ | refine svh (fun hb => ?_) (fun hb => ?_) | refine svb (fun b => ?_)))
  revert b; intro b7
  (repeat' (first | (refine iS ?_; refine iMu ?_; refine S.mapU ?_) | refine svz ⟨fun b hq => ?_⟩ | refine sv1 ?_ | refine svs ⟨?_⟩ | refine svu ⟨fun u => ?_⟩ | (refine svg (fun hg => ?_) (fun hg => ?_) <;> try (exfalso; first | omega | contradiction)) | (refine svc (fun hc => ?_) (fun hc => ?_) <;> try (exfalso; first | omega | contradiction)) | refine sv2 ?_ | refine svh (fun hb => ?_) (fun hb => ?_) | refine svb (fun b => ?_) | refine sva ?_ | refine sv3 ?_))
  revert b; intro b8
  refine S.call ?_; refine (d0 _).mono ?_; rintro r h' ⟨rfl, hh⟩; subst hh
  (repeat' (first | (refine iS ?_; refine iMu ?_; refine S.mapU ?_) | refine svz ⟨fun b hq => ?_⟩ | refine sv1 ?_ | refine svs ⟨?_⟩ | refine svu ⟨fun u => ?_⟩ | (refine svg (fun hg => ?_) (fun hg => ?_) <;> try (exfalso; first | omega | contradiction)) | (refine svc (fun hc => ?_) (fun hc => ?_) <;> try (exfalso; first | omega | contradiction)) | refine sv2 ?_ | refine svh (fun hb => ?_) (fun hb => ?_) | refine svb (fun b => ?_) | refine sva ?_ | refine sv3 ?_))
  revert b; intro b9
  refine S.call ?_; refine (d1 _).mono ?_; rintro r h' ⟨rfl, hh⟩; subst hh
  (repeat' (first | (refine iS ?_; refine iMu ?_; refine S.mapU ?_) | refine svz ⟨fun b hq => ?_⟩ | refine sv1 ?_ | refine svs ⟨?_⟩ | refine svu ⟨fun u => ?_⟩ | (refine svg (fun hg => ?_) (fun hg => ?_) <;> try (exfalso; first | omega | contradiction)) | (refine svc (fun hc => ?_) (fun hc => ?_) <;> try (exfalso; first | omega | contradiction)) | refine sv2 ?_ | refine svh (fun hb => ?_) (fun hb => ?_) | refine svb (fun b => ?_) | refine sva ?_ | refine sv3 ?_))
  revert b; intro b11
  refine R2.C (rD _) ?_
  (repeat' (first | (refine iS ?_; refine iMu ?_; refine S.mapU ?_) | refine svz ⟨fun b hq => ?_⟩ | refine sv1 ?_ | refine svs ⟨?_⟩ | refine svu ⟨fun u => ?_⟩ | (refine svg (fun hg => ?_) (fun hg => ?_) <;> try (exfalso; first | omega | contradiction)) | (refine svc (fun hc => ?_) (fun hc => ?_) <;> try (exfalso; first | omega | contradiction)) | refine sv2 ?_ | refine svh (fun hb => ?_) (fun hb => ?_) | refine svb (fun b => ?_) | refine sva ?_ | refine sv3 ?_))
  refine R2.C (rE _) ?_
  (repeat' (first | (refine iS ?_; refine iMu ?_; refine S.mapU ?_) | refine svz ⟨fun b hq => ?_⟩ | refine sv1 ?_ | refine svs ⟨?_⟩ | refine svu ⟨fun u => ?_⟩ | (refine svg (fun hg => ?_) (fun hg => ?_) <;> try (exfalso; first | omega | contradiction)) | (refine svc (fun hc => ?_) (fun hc => ?_) <;> try (exfalso; first | omega | contradiction)) | refine sv2 ?_ | refine svh (fun hb => ?_) (fun hb => ?_) | refine svb (fun b => ?_) | refine sva ?_ | refine sv3 ?_))
  refine W.loop (J := fun i : Nat => ⟨119, [(13, .val (.int .i64 (r.y + (i : Int)))), (11, .val (.pointer (some ⟨b11, 0, none⟩))), (9, .val (.pointer (some ⟨b9, 0, none⟩))), (8, .val (.pointer (some ⟨b8, 0, none⟩))), (7, .val (.pointer (some ⟨b7, 0, none⟩))), (2, .val (.int .i8 dy)), (1, .val (.int .i8 dx))], [.box b11 [.ro 4 (E.map RC.enc)] 36, .box b9 [.ro 4 (D.map RC.enc)] 36, .box b8 [.val (.int .i64 (r.x + dx)), .val (.int .i64 (r.y + dy)), .val (.int .i64 r.w), .val (.int .i64 r.h)] 26, .box b7 [.val (.int .i64 r.x), .val (.int .i64 r.y), .val (.int .i64 r.w), .val (.int .i64 r.h)] 26]⟩)
    (Φ := fun i => i ≤ r.h.toNat) (μ := fun i => r.h.toNat - i) 0 (by rw [show r.y + ((0 : Nat) : Int) = r.y by omega]; exact ⟨rfl, (by repeat (first | exact LeT.nil | refine LeT.cons rfl ?_ | refine LeT.consw rfl (by (repeat (first | exact Wk.refl _ | exact Wk.nilr _ | exact Wk.nilm | apply Wk.aggc | apply Wk.tupc | exact Wk.aggn | exact Wk.tupn)); first | done | fail) ?_)), (by repeat (first | exact LeH.refl _ | exact LeH.nil _ | refine LeH.cons (by (fail_if_success (apply tkG)); (repeat (first | exact Tk.here | apply Tk.there)); first | done | fail) ?_ | refine LeH.boxw (by (fail_if_success (apply tkG)); (repeat (first | exact Tk.here | apply Tk.there)); first | done | fail) (by (repeat (first | exact Wk.refl _ | exact Wk.nilr _ | exact Wk.nilm | apply Wk.aggc | apply Wk.tupc | exact Wk.aggn | exact Wk.tupn)); first | done | fail) ?_ | refine LeH.skip ?_))⟩) (Nat.zero_le _) ?_
  intro i hi
  rcases Nat.lt_or_ge i r.h.toNat with hlt | hge
  · have ei : r.y + (i : Int) + 1 = r.y + ((i + 1 : Nat) : Int) := by omega
    (repeat' (first | (refine iS ?_; refine iMu ?_; refine S.mapU ?_) | refine svz ⟨fun b hq => ?_⟩ | refine sv1 ?_ | refine svs ⟨?_⟩ | refine svu ⟨fun u => ?_⟩ | (refine svg (fun hg => ?_) (fun hg => ?_) <;> try (exfalso; first | omega | contradiction)) | (refine svc (fun hc => ?_) (fun hc => ?_) <;> try (exfalso; first | omega | contradiction)) | refine sv2 ?_ | refine svh (fun hb => ?_) (fun hb => ?_) | refine svb (fun b => ?_) | refine sva ?_ | refine sv3 ?_))
    refine W.loop (J := fun j : Nat => ⟨119, [(14, .val (.int .i64 (r.x + (j : Int)))), (13, .val (.int .i64 (r.y + (i : Int)))), (11, .val (.pointer (some ⟨b11, 0, none⟩))), (9, .val (.pointer (some ⟨b9, 0, none⟩))), (8, .val (.pointer (some ⟨b8, 0, none⟩))), (7, .val (.pointer (some ⟨b7, 0, none⟩))), (2, .val (.int .i8 dy)), (1, .val (.int .i8 dx))], [.box b11 [.ro 4 (E.map RC.enc)] 36, .box b9 [.ro 4 (D.map RC.enc)] 36, .box b8 [.val (.int .i64 (r.x + dx)), .val (.int .i64 (r.y + dy)), .val (.int .i64 r.w), .val (.int .i64 r.h)] 26, .box b7 [.val (.int .i64 r.x), .val (.int .i64 r.y), .val (.int .i64 r.w), .val (.int .i64 r.h)] 26]⟩)
      (Φ := fun j => j ≤ r.w.toNat) (μ := fun j => r.w.toNat - j) 0 (by rw [show r.x + ((0 : Nat) : Int) = r.x by omega]; exact ⟨rfl, (by repeat (first | exact LeT.nil | refine LeT.cons rfl ?_ | refine LeT.consw rfl (by (repeat (first | exact Wk.refl _ | exact Wk.nilr _ | exact Wk.nilm | apply Wk.aggc | apply Wk.tupc | exact Wk.aggn | exact Wk.tupn)); first | done | fail) ?_)), (by repeat (first | exact LeH.refl _ | exact LeH.nil _ | refine LeH.cons (by (fail_if_success (apply tkG)); (repeat (first | exact Tk.here | apply Tk.there)); first | done | fail) ?_ | refine LeH.boxw (by (fail_if_success (apply tkG)); (repeat (first | exact Tk.here | apply Tk.there)); first | done | fail) (by (repeat (first | exact Wk.refl _ | exact Wk.nilr _ | exact Wk.nilm | apply Wk.aggc | apply Wk.tupc | exact Wk.aggn | exact Wk.tupn)); first | done | fail) ?_ | refine LeH.skip ?_))⟩) (Nat.zero_le _) ?_
    intro j hj
    rcases Nat.lt_or_ge j r.w.toNat with hlt2 | hge2
    · have ej : r.x + (j : Int) + 1 = r.x + ((j + 1 : Nat) : Int) := by omega
      have p1 := hD (r.x + (j : Int)) (r.y + (i : Int))
      have p2 := hDE (r.x + (j : Int)) (r.y + (i : Int))
      have p3 := i0 (r.x + (j : Int)) (r.y + (i : Int))
      have p4 := i2 (r.x + (j : Int)) (r.y + (i : Int))
      generalize insF r (r.x + (j : Int)) (r.y + (i : Int)) = u at *
      clear hD hDE i0 i2 hr' d0 d1 rD rE
      have E0 : Hold (j < r.w.toNat ∧ r.x + (j : Int) + 1 = r.x + ((j + 1 : Nat) : Int)) := ⟨hlt2, ej⟩
      have bx : (-40000 ≤ r.x + (j : Int) ∧ r.x + (j : Int) ≤ 40000) ∧ -40000 ≤ r.y + (i : Int) ∧ r.y + (i : Int) ≤ 40000 := by omega
      have cx : r.x + (j : Int) < r.x + r.w := by omega
      have bw : (-40000 ≤ r.x ∧ r.x ≤ 40000) ∧ 0 ≤ r.w ∧ r.w ≤ 23 := by omega
      clear ej ei hlt hlt2 rb rok ok hi hj h0 h1
      cases u <;> (
      (repeat' (first | (refine iS ?_; refine iMu ?_; refine S.mapU ?_) | refine svz ⟨fun b hq => ?_⟩ | refine sv1 ?_ | refine svs ⟨?_⟩ | refine svu ⟨fun u => ?_⟩ | (refine svg (fun hg => ?_) (fun hg => ?_) <;> try (exfalso; first | omega | contradiction)) | (refine svc (fun hc => ?_) (fun hc => ?_) <;> try (exfalso; first | omega | contradiction)) | refine sv2 ?_ | refine svh (fun hb => ?_) (fun hb => ?_) | refine svb (fun b => ?_) | refine sva ?_ | refine sv3 ?_))
      refine R2.C (p1 _) ?_
      (repeat' (first | (refine iS ?_; refine iMu ?_; refine S.mapU ?_) | refine svz ⟨fun b hq => ?_⟩ | refine sv1 ?_ | refine svs ⟨?_⟩ | refine svu ⟨fun u => ?_⟩ | (refine svg (fun hg => ?_) (fun hg => ?_) <;> try (exfalso; first | omega | contradiction)) | (refine svc (fun hc => ?_) (fun hc => ?_) <;> try (exfalso; first | omega | contradiction)) | refine sv2 ?_ | refine svh (fun hb => ?_) (fun hb => ?_) | refine svb (fun b => ?_) | refine sva ?_ | refine sv3 ?_))
      refine R2.C (p2 _) ?_
      (repeat' (first | (refine iS ?_; refine iMu ?_; refine S.mapU ?_) | refine svz ⟨fun b hq => ?_⟩ | refine sv1 ?_ | refine svs ⟨?_⟩ | refine svu ⟨fun u => ?_⟩ | (refine svg (fun hg => ?_) (fun hg => ?_) <;> try (exfalso; first | omega | contradiction)) | (refine svc (fun hc => ?_) (fun hc => ?_) <;> try (exfalso; first | omega | contradiction)) | refine sv2 ?_ | refine svh (fun hb => ?_) (fun hb => ?_) | refine svb (fun b => ?_) | refine sva ?_ | refine sv3 ?_))
      refine R2.C (p3 _) ?_
      (repeat' (first | (refine iS ?_; refine iMu ?_; refine S.mapU ?_) | refine svz ⟨fun b hq => ?_⟩ | refine sv1 ?_ | refine svs ⟨?_⟩ | refine svu ⟨fun u => ?_⟩ | (refine svg (fun hg => ?_) (fun hg => ?_) <;> try (exfalso; first | omega | contradiction)) | (refine svc (fun hc => ?_) (fun hc => ?_) <;> try (exfalso; first | omega | contradiction)) | refine sv2 ?_ | refine svh (fun hb => ?_) (fun hb => ?_) | refine svb (fun b => ?_) | refine sva ?_ | refine sv3 ?_))
      refine R2.C (p4 _) ?_
      (repeat' (first | (refine iS ?_; refine iMu ?_; refine S.mapU ?_) | refine svz ⟨fun b hq => ?_⟩ | refine sv1 ?_ | refine svs ⟨?_⟩ | refine svu ⟨fun u => ?_⟩ | (refine svg (fun hg => ?_) (fun hg => ?_) <;> try (exfalso; first | omega | contradiction)) | (refine svc (fun hc => ?_) (fun hc => ?_) <;> try (exfalso; first | omega | contradiction)) | refine sv2 ?_ | refine svh (fun hb => ?_) (fun hb => ?_) | refine svb (fun b => ?_) | refine sva ?_ | refine sv3 ?_))
      rw [E0.out.2]
      have hlt2 := E0.out.1
      exact ⟨j + 1, hlt2, ⟨rfl, (by repeat (first | exact LeT.nil | refine LeT.cons rfl ?_ | refine LeT.consw rfl (by (repeat (first | exact Wk.refl _ | exact Wk.nilr _ | exact Wk.nilm | apply Wk.aggc | apply Wk.tupc | exact Wk.aggn | exact Wk.tupn)); first | done | fail) ?_)), (by repeat (first | exact LeH.refl _ | exact LeH.nil _ | refine LeH.cons (by (fail_if_success (apply tkG)); (repeat (first | exact Tk.here | apply Tk.there)); first | done | fail) ?_ | refine LeH.boxw (by (fail_if_success (apply tkG)); (repeat (first | exact Tk.here | apply Tk.there)); first | done | fail) (by (repeat (first | exact Wk.refl _ | exact Wk.nilr _ | exact Wk.nilm | apply Wk.aggc | apply Wk.tupc | exact Wk.aggn | exact Wk.tupn)); first | done | fail) ?_ | refine LeH.skip ?_))⟩, by omega⟩)
    · have e : j = r.w.toNat := by omega
      subst e
      (repeat' (first | (refine iS ?_; refine iMu ?_; refine S.mapU ?_) | refine svz ⟨fun b hq => ?_⟩ | refine sv1 ?_ | refine svs ⟨?_⟩ | refine svu ⟨fun u => ?_⟩ | (refine svg (fun hg => ?_) (fun hg => ?_) <;> try (exfalso; first | omega | contradiction)) | (refine svc (fun hc => ?_) (fun hc => ?_) <;> try (exfalso; first | omega | contradiction)) | refine sv2 ?_ | refine svh (fun hb => ?_) (fun hb => ?_) | refine svb (fun b => ?_) | refine sva ?_ | refine sv3 ?_))
      rw [ei]
      exact ⟨i + 1, hlt, ⟨rfl, (by repeat (first | exact LeT.nil | refine LeT.cons rfl ?_ | refine LeT.consw rfl (by (repeat (first | exact Wk.refl _ | exact Wk.nilr _ | exact Wk.nilm | apply Wk.aggc | apply Wk.tupc | exact Wk.aggn | exact Wk.tupn)); first | done | fail) ?_)), (by repeat (first | exact LeH.refl _ | exact LeH.nil _ | refine LeH.cons (by (fail_if_success (apply tkG)); (repeat (first | exact Tk.here | apply Tk.there)); first | done | fail) ?_ | refine LeH.boxw (by (fail_if_success (apply tkG)); (repeat (first | exact Tk.here | apply Tk.there)); first | done | fail) (by (repeat (first | exact Wk.refl _ | exact Wk.nilr _ | exact Wk.nilm | apply Wk.aggc | apply Wk.tupc | exact Wk.aggn | exact Wk.tupn)); first | done | fail) ?_ | refine LeH.skip ?_))⟩, by omega⟩
  · have e : i = r.h.toNat := by omega
    subst e
    (repeat' (first | (refine iS ?_; refine iMu ?_; refine S.mapU ?_) | refine svz ⟨fun b hq => ?_⟩ | refine sv1 ?_ | refine svs ⟨?_⟩ | refine svu ⟨fun u => ?_⟩ | (refine svg (fun hg => ?_) (fun hg => ?_) <;> try (exfalso; first | omega | contradiction)) | (refine svc (fun hc => ?_) (fun hc => ?_) <;> try (exfalso; first | omega | contradiction)) | refine sv2 ?_ | refine svh (fun hb => ?_) (fun hb => ?_) | refine svb (fun b => ?_) | refine sva ?_ | refine sv3 ?_))
    refine S.call ?_; refine (awake_c _).mono ?_; rintro r h' ⟨rfl, hh⟩; subst hh
    (repeat' (first | (refine iS ?_; refine iMu ?_; refine S.mapU ?_) | refine svz ⟨fun b hq => ?_⟩ | refine sv1 ?_ | refine svs ⟨?_⟩ | refine svu ⟨fun u => ?_⟩ | (refine svg (fun hg => ?_) (fun hg => ?_) <;> try (exfalso; first | omega | contradiction)) | (refine svc (fun hc => ?_) (fun hc => ?_) <;> try (exfalso; first | omega | contradiction)) | refine sv2 ?_ | refine svh (fun hb => ?_) (fun hb => ?_) | refine svb (fun b => ?_) | refine sva ?_ | refine sv3 ?_))
    exact fin_r (h' := _) rfl
end Go.Proofs.Ytmkpffckhdofbaa
