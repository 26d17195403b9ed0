/- RegionShifts. No condition. -/
import Derived.Test.YtnedgbhbbpjllaaC10
import Derived.Test.YtnedgbhbbpjllaaW1
namespace Go.Proofs.Ytnedgbhbbpjllaa
open Go Go.VM
attribute [local irreducible] PurV Pur Step RL W D ACalls Then InBlock Fini
set_option linter.unusedVariables false
set_option linter.unusedSimpArgs false
set_option maxHeartbeats 20000000
theorem shift_in (A : List RC) (dx dy : Int) (h : Heap) (cA : Can A) (lA : A.length ≤ 10000) (hb : ∀ r ∈ A, (-1000 ≤ r.x ∧ r.x + r.w ≤ 1000) ∧ -1000 ≤ r.y ∧ r.y + r.h ≤ 1000) (hx : -1000 ≤ dx ∧ dx ≤ 1000) (hy : -1000 ≤ dy ∧ dy ≤ 1000) :
    ACalls Try.prog 29 [regE A, .val (.int .i64 dx), .val (.int .i64 dy)] h (fun r h' => r = regE (A.map (shR dx dy)) ∧ h' = h) := by
  have e : A.map (mvR dx dy) = A.map (shR dx dy) := List.map_congr_left fun r hr => by
    have h1 := hb r hr
    obtain ⟨⟨_, h2, _⟩, _, h3, _⟩ := cA.cnt r hr
    unfold mvR mvY mvX shR
    dsimp only
    rw [show max (r.x + dx) (-1048576) = r.x + dx by omega, show max (r.y + dy) (-1048576) = r.y + dy by omega, show min (r.x + dx + r.w) 1048576 - (r.x + dx) = r.w by omega, show min (r.y + dy + r.h) 1048576 - (r.y + dy) = r.h by omega]
  have hc : Can (A.map (shR dx dy)) := can_sh cA fun r hr => by
    obtain ⟨q, hq, rfl⟩ := List.mem_map.1 hr
    have h1 := hb q hq
    obtain ⟨⟨_, h2, _⟩, _, h3, _⟩ := cA.cnt q hq
    unfold RC.cnt fitP shR
    dsimp only
    omega
  have := shift_c A dx dy h lA cA.cnt (by omega) (by omega)
  rw [e, show ofF (A.map (shR dx dy)) = A.map (shR dx dy) from hc] at this
  exact this
set_option maxRecDepth 100000 in
theorem shifts_c (l : List Sq) (dx dy : Int) (okl : ∀ q ∈ l, q.ok) (hx : -128 ≤ dx ∧ dx ≤ 127) (hy : -128 ≤ dy ∧ dy ≤ 127) : ACalls Try.prog 9 [.ro 4 (l.map Sq.enc), .val (.int .i8 dx), .val (.int .i8 dy)] [] (fun r h' => r = .val (.bool true)) := by
  refine ACalls.intro Try.func9 rfl Try.ntmps9 Try.results9 (Nat.le_of_ble_eq_true rfl) ?_
  refine W.len 0 rfl (fun hll => ?_); simp only [ints, splice, List.length_map, List.length_append, List.length_cons, List.length_nil, List.length_take, List.length_drop, List.length_set, List.length_replicate] at hll
  by_cases hl : 10 < l.length
  · (repeat' (first | (refine iS ?_; refine iMu ?_; refine S.mapU ?_) | refine svz ⟨fun b hq => ?_⟩ | refine sv1 ?_ | refine svs ⟨?_⟩ | refine svu ⟨fun u => ?_⟩ | (refine svg (fun hg => ?_) (fun hg => ?_) <;> try (exfalso; first | omega | contradiction)) | (refine svc (fun hc => ?_) (fun hc => ?_) <;> try (exfalso; first | omega | contradiction)) | refine sv2 ?_ | refine svh (fun hb => ?_) (fun hb => ?_) | refine svb (fun b => ?_) | refine sva ?_ | refine sv3 ?_))
    refine S.call ?_; refine (awake_c _).mono ?_; rintro r h' ⟨rfl, hh⟩; subst hh
    (repeat' (first | (refine iS ?_; refine iMu ?_; refine S.mapU ?_) | refine svz ⟨fun b hq => ?_⟩ | refine sv1 ?_ | refine svs ⟨?_⟩ | refine svu ⟨fun u => ?_⟩ | (refine svg (fun hg => ?_) (fun hg => ?_) <;> try (exfalso; first | omega | contradiction)) | (refine svc (fun hc => ?_) (fun hc => ?_) <;> try (exfalso; first | omega | contradiction)) | refine sv2 ?_ | refine svh (fun hb => ?_) (fun hb => ?_) | refine svb (fun b => ?_) | refine sva ?_ | refine sv3 ?_))
    exact fin_r (h' := _) rfl
  have r1 := fun h => rectsS_c l h (by omega) okl
  have okP := sm_all (l := l)
  have bA := sm_bx l
  have lP : (l.map Sq.rc).length ≤ 10 := by rw [List.length_map]; omega
  generalize l.map Sq.rc = P at *
  have o1 := fun h => of_c P h (by omega) okP
  have e1 : ∀ x y, hasR (ofF P) x y = hasF P x y := has_ofF P
  have hP := fun x y h => rhas14_c P x y h okP
  generalize ofF P = A at *
  have lA := bA.len
  have bb : ∀ r ∈ A, (0 ≤ r.x ∧ r.x + r.w ≤ 28) ∧ 0 ≤ r.y ∧ r.y + r.h ≤ 28 := fun r hr => by have := bA.inb r hr; omega
  have s1 := fun h => shift_in A dx dy h bA.can (by omega) (fun r hr => by have h1 := bb r hr; obtain ⟨⟨_, h2, _⟩, _, h3, _⟩ := bA.can.cnt r hr; omega) (by omega) (by omega)
  have eR : ∀ x y, hasR (A.map (shR dx dy)) (x + dx) (y + dy) = hasF P x y := fun x y => by rw [has_sh, e1]
  have hRb : ∀ r ∈ A.map (shR dx dy), (-1000 ≤ r.x ∧ r.x + r.w ≤ 1000) ∧ -1000 ≤ r.y ∧ r.y + r.h ≤ 1000 := fun r hr => by
    obtain ⟨q, hq, rfl⟩ := List.mem_map.1 hr
    have h1 := bb q hq; obtain ⟨⟨_, h2, _⟩, _, h3, _⟩ := bA.can.cnt q hq
    unfold shR; dsimp only; omega
  have hRc : Can (A.map (shR dx dy)) := can_sh bA.can fun r hr => by
    obtain ⟨q, hq, rfl⟩ := List.mem_map.1 hr
    have h1 := bb q hq; obtain ⟨⟨_, h2, _⟩, _, h3, _⟩ := bA.can.cnt q hq
    unfold RC.cnt fitP shR; dsimp only; omega
  have hRl : (A.map (shR dx dy)).length ≤ 10000 := by rw [List.length_map]; omega
  have har : areaF (A.map (shR dx dy)) = cntN 0 28 (hasF P) 28 0 := by
    rw [area_sh, bA.area, cntN_end]; exact grid_congr e1
  have eb := sh_back A dx dy
  generalize A.map (shR dx dy) = R at *
  have s2 := fun h => shift_in R (-dx) (-dy) h hRc hRl hRb (by omega) (by omega)
  rw [eb, show -dx = 0 - dx by omega, show -dy = 0 - dy by omega] at s2
  have sm := fun h => same_t A A h rfl
  have ra := fun h => barea_c R h (by omega) (fun r hr => (hRc.cnt r hr).sm)
  rw [har] at ra
  have rr := fun h => rects_c R h (by omega)
  have rc := fun h => canon_c R h (by omega) (fun r hr => (hRc.cnt r hr).ok)
  rw [decide_eq_true (show ofF R = R from hRc)] at rc
  have rh := fun x y h => bhas_c R x y h (by omega) hRc.cnt hRc.y
  unfold regE at *
  (repeat' (first | (refine iS ?_; refine iMu ?_; refine S.mapU ?_) | refine svz ⟨fun b hq => ?_⟩ | refine sv1 ?_ | refine svs ⟨?_⟩ | refine svu ⟨fun u => ?_⟩ | (refine svg (fun hg => ?_) (fun hg => ?_) <;> try (exfalso; first | omega | contradiction)) | (refine svc (fun hc => ?_) (fun hc => ?_) <;> try (exfalso; first | omega | contradiction)) | refine sv2 ?_ | refine svh (fun hb => ?_) (fun hb => ?_) | refine svb (fun b => ?_) | refine sva ?_ | refine sv3 ?_))
  refine S.call ?_; refine (r1 _).mono ?_; rintro r h' ⟨rfl, hh⟩; subst hh
  (repeat' (first | (refine iS ?_; refine iMu ?_; refine S.mapU ?_) | refine svz ⟨fun b hq => ?_⟩ | refine sv1 ?_ | refine svs ⟨?_⟩ | refine svu ⟨fun u => ?_⟩ | (refine svg (fun hg => ?_) (fun hg => ?_) <;> try (exfalso; first | omega | contradiction)) | (refine svc (fun hc => ?_) (fun hc => ?_) <;> try (exfalso; first | omega | contradiction)) | refine sv2 ?_ | refine svh (fun hb => ?_) (fun hb => ?_) | refine svb (fun b => ?_) | refine sva ?_ | refine sv3 ?_))
  refine S.call ?_; refine (o1 _).mono ?_; rintro r h' ⟨rfl, hh⟩; subst hh
  (repeat' (first | (refine iS ?_; refine iMu ?_; refine S.mapU ?_) | refine svz ⟨fun b hq => ?_⟩ | refine sv1 ?_ | refine svs ⟨?_⟩ | refine svu ⟨fun u => ?_⟩ | (refine svg (fun hg => ?_) (fun hg => ?_) <;> try (exfalso; first | omega | contradiction)) | (refine svc (fun hc => ?_) (fun hc => ?_) <;> try (exfalso; first | omega | contradiction)) | refine sv2 ?_ | refine svh (fun hb => ?_) (fun hb => ?_) | refine svb (fun b => ?_) | refine sva ?_ | refine sv3 ?_))
  revert b; intro b8
  refine S.call ?_; refine (s1 _).mono ?_; rintro r h' ⟨rfl, hh⟩; subst hh
  (repeat' (first | (refine iS ?_; refine iMu ?_; refine S.mapU ?_) | refine svz ⟨fun b hq => ?_⟩ | refine sv1 ?_ | refine svs ⟨?_⟩ | refine svu ⟨fun u => ?_⟩ | (refine svg (fun hg => ?_) (fun hg => ?_) <;> try (exfalso; first | omega | contradiction)) | (refine svc (fun hc => ?_) (fun hc => ?_) <;> try (exfalso; first | omega | contradiction)) | refine sv2 ?_ | refine svh (fun hb => ?_) (fun hb => ?_) | refine svb (fun b => ?_) | refine sva ?_ | refine sv3 ?_))
  revert b; intro b9
  refine W.loop (J := fun i : Nat => ⟨80, [(27, .val (.int .i64 (i : Int))), (10, .val (.int .i64 (cntN 0 28 (hasF P) i 0))), (9, .val (.pointer (some ⟨b9, 0, none⟩))), (8, .val (.pointer (some ⟨b8, 0, none⟩))), (7, .ro 4 (P.map RC.enc)), (1, .val (.int .i8 dx)), (2, .val (.int .i8 dy))], [.box b9 [.ro 4 (R.map RC.enc)] 28, .box b8 [.ro 4 (A.map RC.enc)] 28]⟩)
    (Φ := fun i => i ≤ 28) (μ := fun i => 28 - i) 0 ⟨rfl, (by repeat (first | exact LeT.nil | refine LeT.cons rfl ?_ | refine LeT.consw rfl (by (repeat (first | exact Wk.refl _ | exact Wk.nilr _ | exact Wk.nilm | apply Wk.aggc | apply Wk.tupc | exact Wk.aggn | exact Wk.tupn)); first | done | fail) ?_)), (by repeat (first | exact LeH.refl _ | exact LeH.nil _ | refine LeH.cons (by (fail_if_success (apply tkG)); (repeat (first | exact Tk.here | apply Tk.there)); first | done | fail) ?_ | refine LeH.boxw (by (fail_if_success (apply tkG)); (repeat (first | exact Tk.here | apply Tk.there)); first | done | fail) (by (repeat (first | exact Wk.refl _ | exact Wk.nilr _ | exact Wk.nilm | apply Wk.aggc | apply Wk.tupc | exact Wk.aggn | exact Wk.tupn)); first | done | fail) ?_ | refine LeH.skip ?_))⟩ (Nat.zero_le _) ?_
  intro i hi
  rcases Nat.lt_or_ge i 28 with hlt | hge
  · (repeat' (first | (refine iS ?_; refine iMu ?_; refine S.mapU ?_) | refine svz ⟨fun b hq => ?_⟩ | refine sv1 ?_ | refine svs ⟨?_⟩ | refine svu ⟨fun u => ?_⟩ | (refine svg (fun hg => ?_) (fun hg => ?_) <;> try (exfalso; first | omega | contradiction)) | (refine svc (fun hc => ?_) (fun hc => ?_) <;> try (exfalso; first | omega | contradiction)) | refine sv2 ?_ | refine svh (fun hb => ?_) (fun hb => ?_) | refine svb (fun b => ?_) | refine sva ?_ | refine sv3 ?_))
    refine W.loop (J := fun j : Nat => ⟨80, [(30, .val (.int .i64 (j : Int))), (27, .val (.int .i64 (i : Int))), (11, .val (.int .i64 (i : Int))), (10, .val (.int .i64 (cntN 0 28 (hasF P) i j))), (9, .val (.pointer (some ⟨b9, 0, none⟩))), (8, .val (.pointer (some ⟨b8, 0, none⟩))), (7, .ro 4 (P.map RC.enc)), (1, .val (.int .i8 dx)), (2, .val (.int .i8 dy))], [.box b9 [.ro 4 (R.map RC.enc)] 28, .box b8 [.ro 4 (A.map RC.enc)] 28]⟩)
      (Φ := fun j => j ≤ 28) (μ := fun j => 28 - j) 0 ⟨rfl, (by repeat (first | exact LeT.nil | refine LeT.cons rfl ?_ | refine LeT.consw rfl (by (repeat (first | exact Wk.refl _ | exact Wk.nilr _ | exact Wk.nilm | apply Wk.aggc | apply Wk.tupc | exact Wk.aggn | exact Wk.tupn)); first | done | fail) ?_)), (by repeat (first | exact LeH.refl _ | exact LeH.nil _ | refine LeH.cons (by (fail_if_success (apply tkG)); (repeat (first | exact Tk.here | apply Tk.there)); first | done | fail) ?_ | refine LeH.boxw (by (fail_if_success (apply tkG)); (repeat (first | exact Tk.here | apply Tk.there)); first | done | fail) (by (repeat (first | exact Wk.refl _ | exact Wk.nilr _ | exact Wk.nilm | apply Wk.aggc | apply Wk.tupc | exact Wk.aggn | exact Wk.tupn)); first | done | fail) ?_ | refine LeH.skip ?_))⟩ (Nat.zero_le _) ?_
    intro j hj
    rcases Nat.lt_or_ge j 28 with hlt2 | hge2
    · have hin := cntN_in (K := 0) (m := 28) (p := hasF P) (i := i) (j := j)
      have hst := cntN_j (K := 0) (m := 28) (p := hasF P) (i := i) (j := j)
      rw [show (j : Int) - 0 = j by omega, show (i : Int) - 0 = i by omega] at hst
      have p1 := hP (j : Int) (i : Int)
      have q1 := rh ((j : Int) + dx) ((i : Int) + dy)
      rw [eR] at q1
      generalize hasF P (j : Int) (i : Int) = u1 at *
      generalize cntN 0 28 (hasF P) i j = N0 at *
      have hij : (i : Int) * 28 ≤ 784 := by omega
      cases u1 with
      | false =>
        have e2 : cntN 0 28 (hasF P) i (j + 1) = N0 := by rw [hst]; simp [ind]
        (repeat' (first | (refine iS ?_; refine iMu ?_; refine S.mapU ?_) | refine svz ⟨fun b hq => ?_⟩ | refine sv1 ?_ | refine svs ⟨?_⟩ | refine svu ⟨fun u => ?_⟩ | (refine svg (fun hg => ?_) (fun hg => ?_) <;> try (exfalso; first | omega | contradiction)) | (refine svc (fun hc => ?_) (fun hc => ?_) <;> try (exfalso; first | omega | contradiction)) | refine sv2 ?_ | refine svh (fun hb => ?_) (fun hb => ?_) | refine svb (fun b => ?_) | refine sva ?_ | refine sv3 ?_))
        refine R2.C (p1 _) ?_
        (repeat' (first | (refine iS ?_; refine iMu ?_; refine S.mapU ?_) | refine svz ⟨fun b hq => ?_⟩ | refine sv1 ?_ | refine svs ⟨?_⟩ | refine svu ⟨fun u => ?_⟩ | (refine svg (fun hg => ?_) (fun hg => ?_) <;> try (exfalso; first | omega | contradiction)) | (refine svc (fun hc => ?_) (fun hc => ?_) <;> try (exfalso; first | omega | contradiction)) | refine sv2 ?_ | refine svh (fun hb => ?_) (fun hb => ?_) | refine svb (fun b => ?_) | refine sva ?_ | refine sv3 ?_))
        refine R2.C (q1 _) ?_
        (repeat' (first | (refine iS ?_; refine iMu ?_; refine S.mapU ?_) | refine svz ⟨fun b hq => ?_⟩ | refine sv1 ?_ | refine svs ⟨?_⟩ | refine svu ⟨fun u => ?_⟩ | (refine svg (fun hg => ?_) (fun hg => ?_) <;> try (exfalso; first | omega | contradiction)) | (refine svc (fun hc => ?_) (fun hc => ?_) <;> try (exfalso; first | omega | contradiction)) | refine sv2 ?_ | refine svh (fun hb => ?_) (fun hb => ?_) | refine svb (fun b => ?_) | refine sva ?_ | refine sv3 ?_))
        refine S.call ?_; refine (p1 _).mono ?_; rintro r h' ⟨rfl, hh⟩; subst hh
        (repeat' (first | (refine iS ?_; refine iMu ?_; refine S.mapU ?_) | refine svz ⟨fun b hq => ?_⟩ | refine sv1 ?_ | refine svs ⟨?_⟩ | refine svu ⟨fun u => ?_⟩ | (refine svg (fun hg => ?_) (fun hg => ?_) <;> try (exfalso; first | omega | contradiction)) | (refine svc (fun hc => ?_) (fun hc => ?_) <;> try (exfalso; first | omega | contradiction)) | refine sv2 ?_ | refine svh (fun hb => ?_) (fun hb => ?_) | refine svb (fun b => ?_) | refine sva ?_ | refine sv3 ?_))
        exact ⟨j + 1, hlt2, by rw [e2]; exact ⟨rfl, (by repeat (first | exact LeT.nil | refine LeT.cons rfl ?_ | refine LeT.consw rfl (by (repeat (first | exact Wk.refl _ | exact Wk.nilr _ | exact Wk.nilm | apply Wk.aggc | apply Wk.tupc | exact Wk.aggn | exact Wk.tupn)); first | done | fail) ?_)), (by repeat (first | exact LeH.refl _ | exact LeH.nil _ | refine LeH.cons (by (fail_if_success (apply tkG)); (repeat (first | exact Tk.here | apply Tk.there)); first | done | fail) ?_ | refine LeH.boxw (by (fail_if_success (apply tkG)); (repeat (first | exact Tk.here | apply Tk.there)); first | done | fail) (by (repeat (first | exact Wk.refl _ | exact Wk.nilr _ | exact Wk.nilm | apply Wk.aggc | apply Wk.tupc | exact Wk.aggn | exact Wk.tupn)); first | done | fail) ?_ | refine LeH.skip ?_))⟩, by omega⟩
      | true =>
        have e2 : cntN 0 28 (hasF P) i (j + 1) = N0 + 1 := by rw [hst]; simp [ind]
        (repeat' (first | (refine iS ?_; refine iMu ?_; refine S.mapU ?_) | refine svz ⟨fun b hq => ?_⟩ | refine sv1 ?_ | refine svs ⟨?_⟩ | refine svu ⟨fun u => ?_⟩ | (refine svg (fun hg => ?_) (fun hg => ?_) <;> try (exfalso; first | omega | contradiction)) | (refine svc (fun hc => ?_) (fun hc => ?_) <;> try (exfalso; first | omega | contradiction)) | refine sv2 ?_ | refine svh (fun hb => ?_) (fun hb => ?_) | refine svb (fun b => ?_) | refine sva ?_ | refine sv3 ?_))
        refine R2.C (p1 _) ?_
        (repeat' (first | (refine iS ?_; refine iMu ?_; refine S.mapU ?_) | refine svz ⟨fun b hq => ?_⟩ | refine sv1 ?_ | refine svs ⟨?_⟩ | refine svu ⟨fun u => ?_⟩ | (refine svg (fun hg => ?_) (fun hg => ?_) <;> try (exfalso; first | omega | contradiction)) | (refine svc (fun hc => ?_) (fun hc => ?_) <;> try (exfalso; first | omega | contradiction)) | refine sv2 ?_ | refine svh (fun hb => ?_) (fun hb => ?_) | refine svb (fun b => ?_) | refine sva ?_ | refine sv3 ?_))
        refine R2.C (q1 _) ?_
        (repeat' (first | (refine iS ?_; refine iMu ?_; refine S.mapU ?_) | refine svz ⟨fun b hq => ?_⟩ | refine sv1 ?_ | refine svs ⟨?_⟩ | refine svu ⟨fun u => ?_⟩ | (refine svg (fun hg => ?_) (fun hg => ?_) <;> try (exfalso; first | omega | contradiction)) | (refine svc (fun hc => ?_) (fun hc => ?_) <;> try (exfalso; first | omega | contradiction)) | refine sv2 ?_ | refine svh (fun hb => ?_) (fun hb => ?_) | refine svb (fun b => ?_) | refine sva ?_ | refine sv3 ?_))
        refine S.call ?_; refine (p1 _).mono ?_; rintro r h' ⟨rfl, hh⟩; subst hh
        (repeat' (first | (refine iS ?_; refine iMu ?_; refine S.mapU ?_) | refine svz ⟨fun b hq => ?_⟩ | refine sv1 ?_ | refine svs ⟨?_⟩ | refine svu ⟨fun u => ?_⟩ | (refine svg (fun hg => ?_) (fun hg => ?_) <;> try (exfalso; first | omega | contradiction)) | (refine svc (fun hc => ?_) (fun hc => ?_) <;> try (exfalso; first | omega | contradiction)) | refine sv2 ?_ | refine svh (fun hb => ?_) (fun hb => ?_) | refine svb (fun b => ?_) | refine sva ?_ | refine sv3 ?_))
        exact ⟨j + 1, hlt2, by rw [e2]; exact ⟨rfl, (by repeat (first | exact LeT.nil | refine LeT.cons rfl ?_ | refine LeT.consw rfl (by (repeat (first | exact Wk.refl _ | exact Wk.nilr _ | exact Wk.nilm | apply Wk.aggc | apply Wk.tupc | exact Wk.aggn | exact Wk.tupn)); first | done | fail) ?_)), (by repeat (first | exact LeH.refl _ | exact LeH.nil _ | refine LeH.cons (by (fail_if_success (apply tkG)); (repeat (first | exact Tk.here | apply Tk.there)); first | done | fail) ?_ | refine LeH.boxw (by (fail_if_success (apply tkG)); (repeat (first | exact Tk.here | apply Tk.there)); first | done | fail) (by (repeat (first | exact Wk.refl _ | exact Wk.nilr _ | exact Wk.nilm | apply Wk.aggc | apply Wk.tupc | exact Wk.aggn | exact Wk.tupn)); first | done | fail) ?_ | refine LeH.skip ?_))⟩, by omega⟩
    · have e : j = 28 := by omega
      subst e
      rw [← cntN_i]
      (repeat' (first | (refine iS ?_; refine iMu ?_; refine S.mapU ?_) | refine svz ⟨fun b hq => ?_⟩ | refine sv1 ?_ | refine svs ⟨?_⟩ | refine svu ⟨fun u => ?_⟩ | (refine svg (fun hg => ?_) (fun hg => ?_) <;> try (exfalso; first | omega | contradiction)) | (refine svc (fun hc => ?_) (fun hc => ?_) <;> try (exfalso; first | omega | contradiction)) | refine sv2 ?_ | refine svh (fun hb => ?_) (fun hb => ?_) | refine svb (fun b => ?_) | refine sva ?_ | refine sv3 ?_))
      exact ⟨i + 1, hlt, ⟨rfl, (by repeat (first | exact LeT.nil | refine LeT.cons rfl ?_ | refine LeT.consw rfl (by (repeat (first | exact Wk.refl _ | exact Wk.nilr _ | exact Wk.nilm | apply Wk.aggc | apply Wk.tupc | exact Wk.aggn | exact Wk.tupn)); first | done | fail) ?_)), (by repeat (first | exact LeH.refl _ | exact LeH.nil _ | refine LeH.cons (by (fail_if_success (apply tkG)); (repeat (first | exact Tk.here | apply Tk.there)); first | done | fail) ?_ | refine LeH.boxw (by (fail_if_success (apply tkG)); (repeat (first | exact Tk.here | apply Tk.there)); first | done | fail) (by (repeat (first | exact Wk.refl _ | exact Wk.nilr _ | exact Wk.nilm | apply Wk.aggc | apply Wk.tupc | exact Wk.aggn | exact Wk.tupn)); first | done | fail) ?_ | refine LeH.skip ?_))⟩, by omega⟩
  · have e : i = 28 := by omega
    subst e
    generalize cntN 0 28 (hasF P) 28 0 = N0 at *
    (repeat' (first | (refine iS ?_; refine iMu ?_; refine S.mapU ?_) | refine svz ⟨fun b hq => ?_⟩ | refine sv1 ?_ | refine svs ⟨?_⟩ | refine svu ⟨fun u => ?_⟩ | (refine svg (fun hg => ?_) (fun hg => ?_) <;> try (exfalso; first | omega | contradiction)) | (refine svc (fun hc => ?_) (fun hc => ?_) <;> try (exfalso; first | omega | contradiction)) | refine sv2 ?_ | refine svh (fun hb => ?_) (fun hb => ?_) | refine svb (fun b => ?_) | refine sva ?_ | refine sv3 ?_))
    refine R2.C (ra _) ?_
    (repeat' (first | (refine iS ?_; refine iMu ?_; refine S.mapU ?_) | refine svz ⟨fun b hq => ?_⟩ | refine sv1 ?_ | refine svs ⟨?_⟩ | refine svu ⟨fun u => ?_⟩ | (refine svg (fun hg => ?_) (fun hg => ?_) <;> try (exfalso; first | omega | contradiction)) | (refine svc (fun hc => ?_) (fun hc => ?_) <;> try (exfalso; first | omega | contradiction)) | refine sv2 ?_ | refine svh (fun hb => ?_) (fun hb => ?_) | refine svb (fun b => ?_) | refine sva ?_ | refine sv3 ?_))
    refine R2.C (rr _) ?_
    (repeat' (first | (refine iS ?_; refine iMu ?_; refine S.mapU ?_) | refine svz ⟨fun b hq => ?_⟩ | refine sv1 ?_ | refine svs ⟨?_⟩ | refine svu ⟨fun u => ?_⟩ | (refine svg (fun hg => ?_) (fun hg => ?_) <;> try (exfalso; first | omega | contradiction)) | (refine svc (fun hc => ?_) (fun hc => ?_) <;> try (exfalso; first | omega | contradiction)) | refine sv2 ?_ | refine svh (fun hb => ?_) (fun hb => ?_) | refine svb (fun b => ?_) | refine sva ?_ | refine sv3 ?_))
    refine R2.C (rc _) ?_
    (repeat' (first | (refine iS ?_; refine iMu ?_; refine S.mapU ?_) | refine svz ⟨fun b hq => ?_⟩ | refine sv1 ?_ | refine svs ⟨?_⟩ | refine svu ⟨fun u => ?_⟩ | (refine svg (fun hg => ?_) (fun hg => ?_) <;> try (exfalso; first | omega | contradiction)) | (refine svc (fun hc => ?_) (fun hc => ?_) <;> try (exfalso; first | omega | contradiction)) | refine sv2 ?_ | refine svh (fun hb => ?_) (fun hb => ?_) | refine svb (fun b => ?_) | refine sva ?_ | refine sv3 ?_))
    refine R2.C (s2 _) ?_
    (repeat' (first | (refine iS ?_; refine iMu ?_; refine S.mapU ?_) | refine svz ⟨fun b hq => ?_⟩ | refine sv1 ?_ | refine svs ⟨?_⟩ | refine svu ⟨fun u => ?_⟩ | (refine svg (fun hg => ?_) (fun hg => ?_) <;> try (exfalso; first | omega | contradiction)) | (refine svc (fun hc => ?_) (fun hc => ?_) <;> try (exfalso; first | omega | contradiction)) | refine sv2 ?_ | refine svh (fun hb => ?_) (fun hb => ?_) | refine svb (fun b => ?_) | refine sva ?_ | refine sv3 ?_))
    refine R2.C (sm _) ?_
    (repeat' (first | (refine iS ?_; refine iMu ?_; refine S.mapU ?_) | refine svz ⟨fun b hq => ?_⟩ | refine sv1 ?_ | refine svs ⟨?_⟩ | refine svu ⟨fun u => ?_⟩ | (refine svg (fun hg => ?_) (fun hg => ?_) <;> try (exfalso; first | omega | contradiction)) | (refine svc (fun hc => ?_) (fun hc => ?_) <;> try (exfalso; first | omega | contradiction)) | refine sv2 ?_ | refine svh (fun hb => ?_) (fun hb => ?_) | refine svb (fun b => ?_) | refine sva ?_ | refine sv3 ?_))
    refine R2.C (awake_c _) ?_
    (repeat' (first | (refine iS ?_; refine iMu ?_; refine S.mapU ?_) | refine svz ⟨fun b hq => ?_⟩ | refine sv1 ?_ | refine svs ⟨?_⟩ | refine svu ⟨fun u => ?_⟩ | (refine svg (fun hg => ?_) (fun hg => ?_) <;> try (exfalso; first | omega | contradiction)) | (refine svc (fun hc => ?_) (fun hc => ?_) <;> try (exfalso; first | omega | contradiction)) | refine sv2 ?_ | refine svh (fun hb => ?_) (fun hb => ?_) | refine svb (fun b => ?_) | refine sva ?_ | refine sv3 ?_))
    exact fin_r (h' := _) rfl
theorem shifts_row : ∀ l, FitAll maxLen [.sl 4 (.fld 1 (.int .u8) (.fld 1 (.int .u8) (.fld 1 (.int .u8) (.fld 1 (.int .u8) (.nil))))), .int .i8, .int .i8] l → ACalls Try.prog 9 l [] (fun r h' => r = .val (.bool true)) := by
  rintro l ⟨x, _, rfl, hx, y, _, rfl, hy, z, _, rfl, hz, rfl⟩
  obtain ⟨ls, rfl, _, hl⟩ := fit_sl (f := Sq.enc) hx (fun y hy => sm_fit hy)
  obtain ⟨a, rfl, ha⟩ := fit_int hy
  obtain ⟨b, rfl, hb⟩ := fit_int hz
  exact shifts_c ls a b hl (wf_i8 ha) (wf_i8 hb)
end Go.Proofs.Ytnedgbhbbpjllaa
