/- PolySteps walked. No condition. -/
import Derived.Test.YtkeclfcjmdhcfaaO20
namespace Go.Proofs.Ytkeclfcjmdhcfaa
open Go Go.VM
attribute [local irreducible] PurV Pur Step RL W D ACalls Then InBlock Fini
set_option linter.unusedVariables false
set_option linter.unusedSimpArgs false
set_option maxHeartbeats 20000000
def stepS (f : Int → Int → Int) (i j : Nat) : Int := sumN i (fun y => sumN 18 fun x => f ((x : Int) - 1) (y : Int)) + sumN j (fun x => f ((x : Int) - 1) (i : Int))
theorem stepS_j (f : Int → Int → Int) (i j : Nat) : stepS f i (j + 1) = stepS f i j + f ((j : Int) - 1) (i : Int) := by unfold stepS; rw [sumN_succ]; omega
theorem stepS_i (f : Int → Int → Int) (i : Nat) : stepS f (i + 1) 0 = stepS f i 18 := by
  unfold stepS; rw [sumN_succ]; show _ + 0 = _; omega
theorem sumN_bd {f : Nat → Int} {B : Int} (h : ∀ i, -B ≤ f i ∧ f i ≤ B) (hB : 0 ≤ B) (n : Nat) : -(n * B) ≤ sumN n f ∧ sumN n f ≤ n * B := by
  have := sumF_bd (f := f) hB (l := List.range n) fun i _ => h i
  rwa [List.length_range] at this
theorem stepS_bd {f : Int → Int → Int} (h : ∀ x y, -16 ≤ f x y ∧ f x y ≤ 16) {i j : Nat} (hi : i ≤ 16) (hj : j ≤ 18) : -10000 ≤ stepS f i j ∧ stepS f i j ≤ 10000 := by
  unfold stepS
  have h1 := sumN_bd (f := fun y => sumN 18 fun x => f ((x : Int) - 1) (y : Int)) (B := 288) (fun y => by have := sumN_bd (f := fun x => f ((x : Int) - 1) (y : Int)) (fun x => h _ _) (by omega) 18; omega) (by omega) i
  have h2 := sumN_bd (f := fun x => f ((x : Int) - 1) (i : Int)) (fun x => h _ _) (by omega) j
  omega
theorem turns_abs (l : List PT) (x y : Int) : -(l.length : Int) ≤ turnsF l x y ∧ turnsF l x y ≤ l.length := by
  have := turns_bd l l.length x y
  rwa [show (edgesP l).take l.length = edgesP l from List.take_of_length_le (by rw [edges_len]; exact Nat.le_refl _)] at this
set_option maxRecDepth 100000 in
theorem steps_c (l : List QP) (ok : ∀ q ∈ l, q.ok) : ACalls Try.prog 8 [.ro 2 (l.map QP.enc)] [] (fun r h' => r = .val (.bool true)) := by
  by_cases hl : 8 < l.length
  · refine ACalls.intro Try.func8 rfl Try.ntmps8 Try.results8 (Nat.le_of_ble_eq_true rfl) ?_
    refine W.len 0 rfl (fun hll => ?_); simp only [ints, splice, List.length_map, List.length_append, List.length_cons, List.length_nil, List.length_take, List.length_drop, List.length_set, List.length_replicate] at hll
    (repeat' (first | (refine iS ?_; refine iMu ?_; refine S.mapU ?_) | refine svz ⟨fun b hq => ?_⟩ | refine sv1 ?_ | refine svs ⟨?_⟩ | refine svu ⟨fun u => ?_⟩ | (refine svg (fun hg => ?_) (fun hg => ?_) <;> try (exfalso; first | omega | contradiction)) | (refine svc (fun hc => ?_) (fun hc => ?_) <;> try (exfalso; first | omega | contradiction)) | refine sv2 ?_ | refine svh (fun hb => ?_) (fun hb => ?_) | refine svb (fun b => ?_) | refine sva ?_ | refine sv3 ?_))
    refine S.call ?_; refine (awake_c _).mono ?_; rintro r h' ⟨rfl, hh⟩; subst hh
    (repeat' (first | (refine iS ?_; refine iMu ?_; refine S.mapU ?_) | refine svz ⟨fun b hq => ?_⟩ | refine sv1 ?_ | refine svs ⟨?_⟩ | refine svu ⟨fun u => ?_⟩ | (refine svg (fun hg => ?_) (fun hg => ?_) <;> try (exfalso; first | omega | contradiction)) | (refine svc (fun hc => ?_) (fun hc => ?_) <;> try (exfalso; first | omega | contradiction)) | refine sv2 ?_ | refine svh (fun hb => ?_) (fun hb => ?_) | refine svb (fun b => ?_) | refine sva ?_ | refine sv3 ?_))
    exact fin_r (h' := _) rfl
  by_cases hl2 : l.length < 2
  · refine ACalls.intro Try.func8 rfl Try.ntmps8 Try.results8 (Nat.le_of_ble_eq_true rfl) ?_
    (repeat' (first | (refine iS ?_; refine iMu ?_; refine S.mapU ?_) | refine svz ⟨fun b hq => ?_⟩ | refine sv1 ?_ | refine svs ⟨?_⟩ | refine svu ⟨fun u => ?_⟩ | (refine svg (fun hg => ?_) (fun hg => ?_) <;> try (exfalso; first | omega | contradiction)) | (refine svc (fun hc => ?_) (fun hc => ?_) <;> try (exfalso; first | omega | contradiction)) | refine sv2 ?_ | refine svh (fun hb => ?_) (fun hb => ?_) | refine svb (fun b => ?_) | refine sva ?_ | refine sv3 ?_))
    refine S.call ?_; refine (awake_c _).mono ?_; rintro r h' ⟨rfl, hh⟩; subst hh
    (repeat' (first | (refine iS ?_; refine iMu ?_; refine S.mapU ?_) | refine svz ⟨fun b hq => ?_⟩ | refine sv1 ?_ | refine svs ⟨?_⟩ | refine svu ⟨fun u => ?_⟩ | (refine svg (fun hg => ?_) (fun hg => ?_) <;> try (exfalso; first | omega | contradiction)) | (refine svc (fun hc => ?_) (fun hc => ?_) <;> try (exfalso; first | omega | contradiction)) | refine sv2 ?_ | refine svh (fun hb => ?_) (fun hb => ?_) | refine svb (fun b => ?_) | refine sva ?_ | refine sv3 ?_))
    exact fin_r (h' := _) rfl
  have p1 := fun h => little_c l h (by omega) ok
  have hP := lit_in (l := l)
  have hPl : (l.map QP.lit).length = l.length := List.length_map ..
  refine ACalls.intro Try.func8 rfl Try.ntmps8 Try.results8 (Nat.le_of_ble_eq_true rfl) ?_
  (repeat' (first | (refine iS ?_; refine iMu ?_; refine S.mapU ?_) | refine svz ⟨fun b hq => ?_⟩ | refine sv1 ?_ | refine svs ⟨?_⟩ | refine svu ⟨fun u => ?_⟩ | (refine svg (fun hg => ?_) (fun hg => ?_) <;> try (exfalso; first | omega | contradiction)) | (refine svc (fun hc => ?_) (fun hc => ?_) <;> try (exfalso; first | omega | contradiction)) | refine sv2 ?_ | refine svh (fun hb => ?_) (fun hb => ?_) | refine svb (fun b => ?_) | refine sva ?_ | refine sv3 ?_))
  generalize l.map QP.lit = P at *
  refine S.call ?_; refine (p1 _).mono ?_; rintro r h' ⟨rfl, hh⟩; subst hh
  (repeat' (first | (refine iS ?_; refine iMu ?_; refine S.mapU ?_) | refine svz ⟨fun b hq => ?_⟩ | refine sv1 ?_ | refine svs ⟨?_⟩ | refine svu ⟨fun u => ?_⟩ | (refine svg (fun hg => ?_) (fun hg => ?_) <;> try (exfalso; first | omega | contradiction)) | (refine svc (fun hc => ?_) (fun hc => ?_) <;> try (exfalso; first | omega | contradiction)) | refine sv2 ?_ | refine svh (fun hb => ?_) (fun hb => ?_) | refine svb (fun b => ?_) | refine sva ?_ | refine sv3 ?_))
  refine W.nil_ 2 23 ?_
  refine W.loop (J := fun q : Nat × Value => ⟨73, [(5, .val (.int .i64 (q.1))), (4, .val q.2), (3, .ro 2 (P.map PT.enc))], .own q.2 2 ((((edgesP P).take q.1).flatMap fun e => [e.1, (⟨e.2.x, e.1.y⟩ : PT)]).map PT.enc) 23 :: []⟩)
    (Φ := fun q => q.1 ≤ P.length) (μ := fun q => P.length - q.1) (0, .slice none 0 0) ⟨rfl, (by repeat (first | exact LeT.nil | refine LeT.cons rfl ?_ | refine LeT.consw rfl (by (repeat (first | exact Wk.refl _ | exact Wk.nilr _ | exact Wk.nilm | apply Wk.aggc | apply Wk.tupc | exact Wk.aggn | exact Wk.tupn)); first | done | fail) ?_)), (by repeat (first | exact LeH.refl _ | exact LeH.nil _ | refine LeH.cons (by (fail_if_success (apply tkG)); (repeat (first | exact Tk.here | apply Tk.there)); first | done | fail) ?_ | refine LeH.boxw (by (fail_if_success (apply tkG)); (repeat (first | exact Tk.here | apply Tk.there)); first | done | fail) (by (repeat (first | exact Wk.refl _ | exact Wk.nilr _ | exact Wk.nilm | apply Wk.aggc | apply Wk.tupc | exact Wk.aggn | exact Wk.tupn)); first | done | fail) ?_ | refine LeH.skip ?_))⟩ (Nat.zero_le _) ?_
  rintro ⟨i, v⟩ hi
  dsimp only at hi ⊢
  rcases Nat.lt_or_ge i P.length with hlt | hge
  · obtain ⟨q1, q2⟩ := ed_at hlt
    have hs := steps_take (edges_at hlt)
    have hq : Unit → ((i : Int) + 1) % (P.length : Int) = (((i + 1) % P.length : Nat) : Int) := fun _ => rem_nat
    have hml : (i + 1) % P.length < P.length := Nat.mod_lt _ (by omega)
    have hol : (((edgesP P).take i).flatMap fun e => [e.1, (⟨e.2.x, e.1.y⟩ : PT)]).length ≤ 16 := by
      have := steps_len P
      have h2 : (((edgesP P).take i).flatMap fun e => [e.1, (⟨e.2.x, e.1.y⟩ : PT)]).length ≤ (stepsP P).length := by
        unfold stepsP
        conv => rhs; rw [← List.take_append_drop i (edgesP P), List.flatMap_append, List.length_append]
        omega
      omega
    generalize ((edgesP P).take i).flatMap (fun e : PT × PT => [e.1, (⟨e.2.x, e.1.y⟩ : PT)]) = O at *
    generalize (i + 1) % P.length = m at *
    generalize (edP P i).1 = p at *
    generalize (edP P i).2 = q at *
    clear hP p1
    (repeat' (first | (refine iS ?_; refine iMu ?_; refine S.mapU ?_) | refine svz ⟨fun b hq => ?_⟩ | refine sv1 ?_ | refine svs ⟨?_⟩ | refine svu ⟨fun u => ?_⟩ | (refine svg (fun hg => ?_) (fun hg => ?_) <;> try (exfalso; first | omega | contradiction)) | (refine svc (fun hc => ?_) (fun hc => ?_) <;> try (exfalso; first | omega | contradiction)) | refine sv2 ?_ | refine svh (fun hb => ?_) (fun hb => ?_) | refine svb (fun b => ?_) | refine sva ?_ | refine sv3 ?_))
    rw [hq ()]
    clear hq
    (repeat' (first | (refine iS ?_; refine iMu ?_; refine S.mapU ?_) | refine svz ⟨fun b hq => ?_⟩ | refine sv1 ?_ | refine svs ⟨?_⟩ | refine svu ⟨fun u => ?_⟩ | (refine svg (fun hg => ?_) (fun hg => ?_) <;> try (exfalso; first | omega | contradiction)) | (refine svc (fun hc => ?_) (fun hc => ?_) <;> try (exfalso; first | omega | contradiction)) | refine sv2 ?_ | refine svh (fun hb => ?_) (fun hb => ?_) | refine svb (fun b => ?_) | refine sva ?_ | refine sv3 ?_))
    exact ⟨(i + 1, u), hlt, by dsimp only; rw [hs, List.map_append]; exact ⟨rfl, (by repeat (first | exact LeT.nil | refine LeT.cons rfl ?_ | refine LeT.consw rfl (by (repeat (first | exact Wk.refl _ | exact Wk.nilr _ | exact Wk.nilm | apply Wk.aggc | apply Wk.tupc | exact Wk.aggn | exact Wk.tupn)); first | done | fail) ?_)), (by repeat (first | exact LeH.refl _ | exact LeH.nil _ | refine LeH.cons (by (fail_if_success (apply tkG)); (repeat (first | exact Tk.here | apply Tk.there)); first | done | fail) ?_ | refine LeH.boxw (by (fail_if_success (apply tkG)); (repeat (first | exact Tk.here | apply Tk.there)); first | done | fail) (by (repeat (first | exact Wk.refl _ | exact Wk.nilr _ | exact Wk.nilm | apply Wk.aggc | apply Wk.tupc | exact Wk.aggn | exact Wk.tupn)); first | done | fail) ?_ | refine LeH.skip ?_))⟩, by dsimp only; omega⟩
  · rw [List.take_of_length_le (by rw [edges_len]; exact hge), show (edgesP P).flatMap (fun e : PT × PT => [e.1, (⟨e.2.x, e.1.y⟩ : PT)]) = stepsP P from rfl]
    have hlw := steps_law hP
    have hm := fun p hp => steps_mem (l := P) (lo := 0) (hi := 15) (p := p) hP hp
    have hnr : ∀ p ∈ stepsP P, p.near := fun p hp => by have := hm p hp; unfold PT.near nearI; omega
    have hln : (stepsP P).length ≤ 16 := by rw [steps_len]; omega
    have tc : ∀ (x y : Int) (h : Heap), -100 ≤ x ∧ x ≤ 100 → -100 ≤ y ∧ y ≤ 100 → ACalls Try.prog _ [.val (.int .i64 (x)), .val (.int .i64 (y)), .ro 2 ((stepsP P).map PT.enc)] h (fun r h' => r = .val (.int .i64 (turnsF (stepsP P) x y)) ∧ h' = h) := fun x y h hx hy => by
      rw [← turnsX_eq hnr (by omega) (x := x) (y := y) (by unfold nearI; omega) (by unfold nearI; omega)]
      exact turns_c _ x y h
    have wc := fun h => twice_c (stepsP P) h
    rw [twiceX_eq hnr (by omega)] at wc
    have hb : ∀ x y, -16 ≤ turnsF (stepsP P) x y ∧ turnsF (stepsP P) x y ≤ 16 := fun x y => by have := turns_abs (stepsP P) x y; omega
    rw [show sumN 16 (fun y => sumN 18 fun x => turnsF (stepsP P) ((x : Int) - 1) (y : Int)) = stepS (fun x y => turnsF (stepsP P) x y) 16 0 from (Int.add_zero _).symm] at hlw
    have hsb : ∀ i j : Nat, i ≤ 16 → j ≤ 18 → -10000 ≤ stepS (fun x y => turnsF (stepsP P) x y) i j ∧ stepS (fun x y => turnsF (stepsP P) x y) i j ≤ 10000 := fun i j h1 h2 => stepS_bd hb h1 h2
    generalize hf0 : (fun x y => turnsF (stepsP P) x y) = f at *
    have hfe : ∀ x y, turnsF (stepsP P) x y = f x y := fun x y => by rw [← hf0]
    simp only [hfe] at tc hb
    clear hfe hf0 hm hnr hP p1
    generalize twiceF (stepsP P) = w0 at *
    generalize stepsP P = A at *
    refine W.frz (v := v) (by (fail_if_success (apply tkG)); (repeat (first | exact Tk.here | apply Tk.there)); first | done | fail) (by repeat' (first | apply FrzT.cons | exact FrzT.rest _ | exact Frz.hit | apply Frz.aggc | apply Frz.tupc | exact Frz.aggn | exact Frz.tupn | exact Frz.keep _)) (by repeat' (first | apply FrzH.box | apply FrzH.keep | exact FrzH.rest _ | exact Frz.hit | apply Frz.aggc | apply Frz.tupc | exact Frz.aggn | exact Frz.tupn | exact Frz.keep _)) ?_
    (repeat' (first | (refine iS ?_; refine iMu ?_; refine S.mapU ?_) | refine svz ⟨fun b hq => ?_⟩ | refine sv1 ?_ | refine svs ⟨?_⟩ | refine svu ⟨fun u => ?_⟩ | (refine svg (fun hg => ?_) (fun hg => ?_) <;> try (exfalso; first | omega | contradiction)) | (refine svc (fun hc => ?_) (fun hc => ?_) <;> try (exfalso; first | omega | contradiction)) | refine sv2 ?_ | refine svh (fun hb => ?_) (fun hb => ?_) | refine svb (fun b => ?_) | refine sva ?_ | refine sv3 ?_))
    refine W.loop (J := fun i : Nat => ⟨73, [(8, .val (.int .i64 (i))), (7, .val (.int .i64 (stepS f i 0))), (4, .ro 2 (A.map PT.enc))], []⟩)
      (Φ := fun i => i ≤ 16) (μ := fun i => 16 - i) 0 ⟨rfl, (by repeat (first | exact LeT.nil | refine LeT.cons rfl ?_ | refine LeT.consw rfl (by (repeat (first | exact Wk.refl _ | exact Wk.nilr _ | exact Wk.nilm | apply Wk.aggc | apply Wk.tupc | exact Wk.aggn | exact Wk.tupn)); first | done | fail) ?_)), (by repeat (first | exact LeH.refl _ | exact LeH.nil _ | refine LeH.cons (by (fail_if_success (apply tkG)); (repeat (first | exact Tk.here | apply Tk.there)); first | done | fail) ?_ | refine LeH.boxw (by (fail_if_success (apply tkG)); (repeat (first | exact Tk.here | apply Tk.there)); first | done | fail) (by (repeat (first | exact Wk.refl _ | exact Wk.nilr _ | exact Wk.nilm | apply Wk.aggc | apply Wk.tupc | exact Wk.aggn | exact Wk.tupn)); first | done | fail) ?_ | refine LeH.skip ?_))⟩ (Nat.zero_le _) ?_
    intro i hi
    rcases Nat.lt_or_ge i 16 with hlt | hge
    · (repeat' (first | (refine iS ?_; refine iMu ?_; refine S.mapU ?_) | refine svz ⟨fun b hq => ?_⟩ | refine sv1 ?_ | refine svs ⟨?_⟩ | refine svu ⟨fun u => ?_⟩ | (refine svg (fun hg => ?_) (fun hg => ?_) <;> try (exfalso; first | omega | contradiction)) | (refine svc (fun hc => ?_) (fun hc => ?_) <;> try (exfalso; first | omega | contradiction)) | refine sv2 ?_ | refine svh (fun hb => ?_) (fun hb => ?_) | refine svb (fun b => ?_) | refine sva ?_ | refine sv3 ?_))
      refine W.loop (J := fun j : Nat => ⟨73, [(9, .val (.int .i64 ((j : Int) - 1))), (8, .val (.int .i64 (i))), (7, .val (.int .i64 (stepS f i j))), (4, .ro 2 (A.map PT.enc))], []⟩)
        (Φ := fun j => j ≤ 18) (μ := fun j => 18 - j) 0 ⟨rfl, (by repeat (first | exact LeT.nil | refine LeT.cons rfl ?_ | refine LeT.consw rfl (by (repeat (first | exact Wk.refl _ | exact Wk.nilr _ | exact Wk.nilm | apply Wk.aggc | apply Wk.tupc | exact Wk.aggn | exact Wk.tupn)); first | done | fail) ?_)), (by repeat (first | exact LeH.refl _ | exact LeH.nil _ | refine LeH.cons (by (fail_if_success (apply tkG)); (repeat (first | exact Tk.here | apply Tk.there)); first | done | fail) ?_ | refine LeH.boxw (by (fail_if_success (apply tkG)); (repeat (first | exact Tk.here | apply Tk.there)); first | done | fail) (by (repeat (first | exact Wk.refl _ | exact Wk.nilr _ | exact Wk.nilm | apply Wk.aggc | apply Wk.tupc | exact Wk.aggn | exact Wk.tupn)); first | done | fail) ?_ | refine LeH.skip ?_))⟩ (Nat.zero_le _) ?_
      intro j hj
      rcases Nat.lt_or_ge j 18 with hlt2 | hge2
      · have hst := stepS_j f i j
        have b1 := hsb i j (by omega) (by omega)
        have b2 := hb ((j : Int) - 1) (i : Int)
        have tc1 := fun h => tc ((j : Int) - 1) (i : Int) h (by omega) (by omega)
        have ej : ((j : Int) - 1 + 1) = (((j + 1 : Nat) : Int) - 1) := by omega
        generalize f ((j : Int) - 1) (i : Int) = u1 at *
        generalize stepS f i j = N0 at *
        clear tc hb hsb hlw
        (repeat' (first | (refine iS ?_; refine iMu ?_; refine S.mapU ?_) | refine svz ⟨fun b hq => ?_⟩ | refine sv1 ?_ | refine svs ⟨?_⟩ | refine svu ⟨fun u => ?_⟩ | (refine svg (fun hg => ?_) (fun hg => ?_) <;> try (exfalso; first | omega | contradiction)) | (refine svc (fun hc => ?_) (fun hc => ?_) <;> try (exfalso; first | omega | contradiction)) | refine sv2 ?_ | refine svh (fun hb => ?_) (fun hb => ?_) | refine svb (fun b => ?_) | refine sva ?_ | refine sv3 ?_))
        refine S.call ?_; refine (tc1 _).mono ?_; rintro r h' ⟨rfl, hh⟩; subst hh
        (repeat' (first | (refine iS ?_; refine iMu ?_; refine S.mapU ?_) | refine svz ⟨fun b hq => ?_⟩ | refine sv1 ?_ | refine svs ⟨?_⟩ | refine svu ⟨fun u => ?_⟩ | (refine svg (fun hg => ?_) (fun hg => ?_) <;> try (exfalso; first | omega | contradiction)) | (refine svc (fun hc => ?_) (fun hc => ?_) <;> try (exfalso; first | omega | contradiction)) | refine sv2 ?_ | refine svh (fun hb => ?_) (fun hb => ?_) | refine svb (fun b => ?_) | refine sva ?_ | refine sv3 ?_))
        rw [ej]
        exact ⟨j + 1, hlt2, by rw [hst]; exact ⟨rfl, (by repeat (first | exact LeT.nil | refine LeT.cons rfl ?_ | refine LeT.consw rfl (by (repeat (first | exact Wk.refl _ | exact Wk.nilr _ | exact Wk.nilm | apply Wk.aggc | apply Wk.tupc | exact Wk.aggn | exact Wk.tupn)); first | done | fail) ?_)), (by repeat (first | exact LeH.refl _ | exact LeH.nil _ | refine LeH.cons (by (fail_if_success (apply tkG)); (repeat (first | exact Tk.here | apply Tk.there)); first | done | fail) ?_ | refine LeH.boxw (by (fail_if_success (apply tkG)); (repeat (first | exact Tk.here | apply Tk.there)); first | done | fail) (by (repeat (first | exact Wk.refl _ | exact Wk.nilr _ | exact Wk.nilm | apply Wk.aggc | apply Wk.tupc | exact Wk.aggn | exact Wk.tupn)); first | done | fail) ?_ | refine LeH.skip ?_))⟩, by omega⟩
      · have e : j = 18 := by omega
        subst e
        rw [← stepS_i]
        (repeat' (first | (refine iS ?_; refine iMu ?_; refine S.mapU ?_) | refine svz ⟨fun b hq => ?_⟩ | refine sv1 ?_ | refine svs ⟨?_⟩ | refine svu ⟨fun u => ?_⟩ | (refine svg (fun hg => ?_) (fun hg => ?_) <;> try (exfalso; first | omega | contradiction)) | (refine svc (fun hc => ?_) (fun hc => ?_) <;> try (exfalso; first | omega | contradiction)) | refine sv2 ?_ | refine svh (fun hb => ?_) (fun hb => ?_) | refine svb (fun b => ?_) | refine sva ?_ | refine sv3 ?_))
        exact ⟨i + 1, hlt, ⟨rfl, (by repeat (first | exact LeT.nil | refine LeT.cons rfl ?_ | refine LeT.consw rfl (by (repeat (first | exact Wk.refl _ | exact Wk.nilr _ | exact Wk.nilm | apply Wk.aggc | apply Wk.tupc | exact Wk.aggn | exact Wk.tupn)); first | done | fail) ?_)), (by repeat (first | exact LeH.refl _ | exact LeH.nil _ | refine LeH.cons (by (fail_if_success (apply tkG)); (repeat (first | exact Tk.here | apply Tk.there)); first | done | fail) ?_ | refine LeH.boxw (by (fail_if_success (apply tkG)); (repeat (first | exact Tk.here | apply Tk.there)); first | done | fail) (by (repeat (first | exact Wk.refl _ | exact Wk.nilr _ | exact Wk.nilm | apply Wk.aggc | apply Wk.tupc | exact Wk.aggn | exact Wk.tupn)); first | done | fail) ?_ | refine LeH.skip ?_))⟩, by omega⟩
    · have e : i = 16 := by omega
      subst e
      have b1 := hsb 16 0 (by omega) (by omega)
      generalize stepS f 16 0 = N0 at *
      have ew : w0 = -(2 * N0) := by omega
      subst ew
      clear hlw tc hb hsb
      (repeat' (first | (refine iS ?_; refine iMu ?_; refine S.mapU ?_) | refine svz ⟨fun b hq => ?_⟩ | refine sv1 ?_ | refine svs ⟨?_⟩ | refine svu ⟨fun u => ?_⟩ | (refine svg (fun hg => ?_) (fun hg => ?_) <;> try (exfalso; first | omega | contradiction)) | (refine svc (fun hc => ?_) (fun hc => ?_) <;> try (exfalso; first | omega | contradiction)) | refine sv2 ?_ | refine svh (fun hb => ?_) (fun hb => ?_) | refine svb (fun b => ?_) | refine sva ?_ | refine sv3 ?_))
      refine S.call ?_; refine (wc _).mono ?_; rintro r h' ⟨rfl, hh⟩; subst hh
      (repeat' (first | (refine iS ?_; refine iMu ?_; refine S.mapU ?_) | refine svz ⟨fun b hq => ?_⟩ | refine sv1 ?_ | refine svs ⟨?_⟩ | refine svu ⟨fun u => ?_⟩ | (refine svg (fun hg => ?_) (fun hg => ?_) <;> try (exfalso; first | omega | contradiction)) | (refine svc (fun hc => ?_) (fun hc => ?_) <;> try (exfalso; first | omega | contradiction)) | refine sv2 ?_ | refine svh (fun hb => ?_) (fun hb => ?_) | refine svb (fun b => ?_) | refine sva ?_ | refine sv3 ?_))
      refine S.call ?_; refine (awake_c _).mono ?_; rintro r h' ⟨rfl, hh⟩; subst hh
      (repeat' (first | (refine iS ?_; refine iMu ?_; refine S.mapU ?_) | refine svz ⟨fun b hq => ?_⟩ | refine sv1 ?_ | refine svs ⟨?_⟩ | refine svu ⟨fun u => ?_⟩ | (refine svg (fun hg => ?_) (fun hg => ?_) <;> try (exfalso; first | omega | contradiction)) | (refine svc (fun hc => ?_) (fun hc => ?_) <;> try (exfalso; first | omega | contradiction)) | refine sv2 ?_ | refine svh (fun hb => ?_) (fun hb => ?_) | refine svb (fun b => ?_) | refine sva ?_ | refine sv3 ?_))
      exact fin_r (h' := _) rfl
theorem steps_row : ∀ l, FitAll maxLen [.sl 2 (.fld 1 (.int .i8) (.fld 1 (.int .i8) (.nil)))] l → ACalls Try.prog 8 l [] (fun r h' => r = .val (.bool true)) := by
  rintro l ⟨x, _, rfl, hx, rfl⟩
  obtain ⟨ls, rfl, _, hl⟩ := fit_sl (f := QP.enc) hx (fun y hy => qp_fit hy)
  exact steps_c ls hl
end Go.Proofs.Ytkeclfcjmdhcfaa
