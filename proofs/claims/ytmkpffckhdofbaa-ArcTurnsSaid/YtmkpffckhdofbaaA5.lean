/- arc: Ring, Span, Inside. No condition. -/
import Derived.Test.YtmkpffckhdofbaaA4
namespace Go.Proofs.Ytmkpffckhdofbaa
open Go Go.VM
attribute [local irreducible] PurV Pur Step RL W D ACalls Then InBlock Fini
set_option linter.unusedVariables false
set_option linter.unusedSimpArgs false
set_option maxHeartbeats 20000000
theorem rowF_bd {r : RC} (ok : aok r) (y : Int) : (-1048576 ≤ (rowF r y).1 ∧ (rowF r y).1 ≤ 1048576) ∧ -1048576 ≤ (rowF r y).2 ∧ (rowF r y).2 ≤ 1048576 := by
  have h := rowF_in ok y
  obtain ⟨⟨⟨o1, o2⟩, o3, o4⟩, ⟨⟨o5, o6⟩, o7, o8⟩, o9, o10⟩ := ok
  rcases h with q | ⟨q1, q2, q3, _⟩
  · rw [q]; simp
  · omega
set_option maxRecDepth 100000 in
theorem ring_c (r : RC) (h : Heap) (ok : r.ok) : ACalls Try.prog 15 [r.enc] h (fun v h' => v = .tup [regE (ringF r), .val (.int .i64 (errF r))] ∧ h' = h) := by
  have chk := fun h => check_c r h ok
  by_cases hk : aok r
  · have e0 : errF r = 0 := errF_0.2 hk
    have ed : ringF r = ofF (ringL r) := if_pos hk
    rw [e0] at chk
    rw [e0, ed]
    have hrow := fun y h hy => row_c r y h hk hy
    show ACalls Try.prog 15 [.agg [.val (.int .i64 r.x), .val (.int .i64 r.y), .val (.int .i64 r.w), .val (.int .i64 r.h)]] h _
    have hrow' : ∀ y h, (-4000000 ≤ y ∧ y ≤ 4000000) → ACalls Try.prog 26 [.agg [.val (.int .i64 r.x), .val (.int .i64 r.y), .val (.int .i64 r.w), .val (.int .i64 r.h)], .val (.int .i64 y)] h (fun v h' => v = stE (rowF r y) ∧ h' = h) := hrow
    clear hrow
    unfold regE
    refine ACalls.intro Try.func15 rfl Try.ntmps15 Try.results15 (Nat.le_of_ble_eq_true rfl) ?_
    (repeat' (first | (refine iS ?_; refine iMu ?_; refine S.mapU ?_) | refine svz ⟨fun b hq => ?_⟩ | refine sv1 ?_ | refine svs ⟨?_⟩ | refine svu ⟨fun u => ?_⟩ | (refine svg (fun hg => ?_) (fun hg => ?_) <;> try (exfalso; first | omega | contradiction)) | (refine svc (fun hc => ?_) (fun hc => ?_) <;> try (exfalso; first | omega | contradiction)) | refine sv2 ?_ | refine svh (fun hb => ?_) (fun hb => ?_) | refine svb (fun b => ?_) | refine sva ?_ | refine sv3 ?_))
    rename_i b1
    revert b; intro b2
    refine S.call ?_; refine (chk _).mono ?_; rintro r h' ⟨rfl, hh⟩; subst hh
    (repeat' (first | (refine iS ?_; refine iMu ?_; refine S.mapU ?_) | refine svz ⟨fun b hq => ?_⟩ | refine sv1 ?_ | refine svs ⟨?_⟩ | refine svu ⟨fun u => ?_⟩ | (refine svg (fun hg => ?_) (fun hg => ?_) <;> try (exfalso; first | omega | contradiction)) | (refine svc (fun hc => ?_) (fun hc => ?_) <;> try (exfalso; first | omega | contradiction)) | refine sv2 ?_ | refine svh (fun hb => ?_) (fun hb => ?_) | refine svb (fun b => ?_) | refine sva ?_ | refine sv3 ?_))
    revert b; intro b5
    refine S.call ?_
    refine (rows_c r _).mono ?_
    rintro r' h' ⟨g, rfl, hh⟩; subst hh
    (repeat' (first | (refine iS ?_; refine iMu ?_; refine S.mapU ?_) | refine svz ⟨fun b hq => ?_⟩ | refine sv1 ?_ | refine svs ⟨?_⟩ | refine svu ⟨fun u => ?_⟩ | (refine svg (fun hg => ?_) (fun hg => ?_) <;> try (exfalso; first | omega | contradiction)) | (refine svc (fun hc => ?_) (fun hc => ?_) <;> try (exfalso; first | omega | contradiction)) | refine sv2 ?_ | refine svh (fun hb => ?_) (fun hb => ?_) | refine svb (fun b => ?_) | refine sva ?_ | refine sv3 ?_))
    refine W.nil_ 4 26 ?_
    refine W.le (s' := ⟨69, [(19, .clo (.func 47) [.val (.pointer (some ⟨g, 0, none⟩))]), (5, .val (.pointer (some ⟨b5, 0, none⟩))), (2, .val (.pointer (some ⟨b2, 0, none⟩))), (1, .val (.pointer (some ⟨b1, 0, none⟩)))], .box g [.val (.int .i64 r.x), .val (.int .i64 r.y), .val (.int .i64 r.w), .val (.int .i64 r.h)] 26 :: .box b5 [.val (.slice none 0 0)] 34 :: .own (.slice none 0 0) 4 ((([] : List RC)).map RC.enc) 26 :: .box b1 [.val (.int .i64 r.x), .val (.int .i64 r.y), .val (.int .i64 r.w), .val (.int .i64 r.h)] 26 :: .box b2 [.val (.slice none 0 0)] 36 :: h⟩) ⟨rfl, (by repeat (first | exact LeT.nil | refine LeT.cons rfl ?_ | refine LeT.consw rfl (by (repeat (first | exact Wk.refl _ | exact Wk.nilr _ | exact Wk.nilm | apply Wk.aggc | apply Wk.tupc | exact Wk.aggn | exact Wk.tupn)); first | done | fail) ?_)), (by repeat (first | exact LeH.refl _ | exact LeH.nil _ | refine LeH.cons (by (fail_if_success (apply tkG)); (repeat (first | exact Tk.here | apply Tk.there)); first | done | fail) ?_ | refine LeH.boxw (by (fail_if_success (apply tkG)); (repeat (first | exact Tk.here | apply Tk.there)); first | done | fail) (by (repeat (first | exact Wk.refl _ | exact Wk.nilr _ | exact Wk.nilm | apply Wk.aggc | apply Wk.tupc | exact Wk.aggn | exact Wk.tupn)); first | done | fail) ?_ | refine LeH.skip ?_))⟩ ?_
    refine W.range (fun k hh => ∃ vo, hh = .box b5 [.val vo] 34 :: .own vo 4 ((((rowsF r r.h.toNat).take k).flatMap fun p => ringP r p.1 p.2).map RC.enc) 26 :: .box b1 [.val (.int .i64 r.x), .val (.int .i64 r.y), .val (.int .i64 r.w), .val (.int .i64 r.h)] 26 :: .box b2 [.val (.slice none 0 0)] 36 :: h)
      (fun _ _ => False) (rows_iter r g hk) ⟨.slice none 0 0, by rw [List.take_zero]⟩ ?_ ?_ (fun c h hf => hf.elim) (fun x hx => by obtain ⟨s, _, rfl⟩ := List.mem_map.1 hx; rfl) (by repeat (first | exact LeH.refl _ | exact LeH.nil _ | refine LeH.cons (by (fail_if_success (apply tkG)); (repeat (first | exact Tk.here | apply Tk.there)); first | done | fail) ?_ | refine LeH.boxw (by (fail_if_success (apply tkG)); (repeat (first | exact Tk.here | apply Tk.there)); first | done | fail) (by (repeat (first | exact Wk.refl _ | exact Wk.nilr _ | exact Wk.nilm | apply Wk.aggc | apply Wk.tupc | exact Wk.aggn | exact Wk.tupn)); first | done | fail) ?_ | refine LeH.skip ?_))
    · rintro lp k x hh ⟨vo, rfl⟩ hx
      rw [List.getElem?_map] at hx
      obtain ⟨p, hp, rfl⟩ := Option.map_eq_some_iff.1 hx
      obtain ⟨p1, p2⟩ := p
      have hmem : p2 = rowF r p1 ∧ p2.1 < p2.2 := (mem_rowsF hk).1 (List.mem_of_getElem? hp)
      have hsb := rowF_bd hk p1
      rw [← hmem.1] at hsb
      have hyb : r.y ≤ p1 ∧ p1 < r.y + r.h := by
        rcases rowF_in hk p1 with q | ⟨q1, q2, q3, q4, q5⟩
        · have := hmem.2; rw [hmem.1, q] at this; cases this
        · exact ⟨q4, q5⟩
      have hab := rowF_bd hk (p1 - 1)
      have hbb := rowF_bd hk (p1 + 1)
      have hlen : (((rowsF r r.h.toNat).take k).flatMap fun p => ringP r p.1 p.2).length ≤ 8192 := by
        have h1 := flatMap_len (l := (rowsF r r.h.toNat).take k) (f := fun p => ringP r p.1 p.2) (c := 2) fun a _ => ringP_len _ _ _
        have h2 := rowsF_len r r.h.toNat
        rw [List.length_take] at h1
        obtain ⟨_, ⟨_, _, o8⟩, _⟩ := hk
        omega
      rw [rows_take hp, List.flatMap_append]
      simp only [List.flatMap_cons, List.flatMap_nil, List.append_nil]
      generalize ((rowsF r r.h.toNat).take k).flatMap (fun p => ringP r p.1 p.2) = O at *
      obtain ⟨⟨⟨o1, o2⟩, o3, o4⟩, ⟨⟨o5, o6⟩, o7, o8⟩, o9, o10⟩ := hk
      have hr1 := fun h => hrow' (p1 - 1) h (by omega)
      have hr2 := fun h => hrow' (p1 + 1) h (by omega)
      have hrp : ringP r p1 p2 = if min (min (p2.2 - 1) (rowF r (p1 - 1)).2) (rowF r (p1 + 1)).2 ≤ max (max (p2.1 + 1) (rowF r (p1 - 1)).1) (rowF r (p1 + 1)).1 then putF p1 p2
        else putF p1 (p2.1, max (max (p2.1 + 1) (rowF r (p1 - 1)).1) (rowF r (p1 + 1)).1) ++ putF p1 (min (min (p2.2 - 1) (rowF r (p1 - 1)).2) (rowF r (p1 + 1)).2, p2.2) := rfl
      generalize ringP r p1 p2 = RP at *
      generalize rowF r (p1 - 1) = a at *
      generalize rowF r (p1 + 1) = c at *
      obtain ⟨s1, s2⟩ := p2
      obtain ⟨a1, a2⟩ := a
      obtain ⟨c1, c2⟩ := c
      dsimp only at hrp hsb hab hbb
      show W _ _ _ _ ⟨69, (21, stE (s1, s2)) :: (20, .val (.int .i64 p1)) :: _, _⟩
      have hput := fun O y s v h h1 h2 => put_c O y s v h h1 h2
      unfold stE at *
      clear hrow' hx hp hmem
      (repeat' ((fail_if_success (refine drg ?_)); (first | (refine iS ?_; refine iMu ?_; refine S.mapU ?_) | refine svz ⟨fun b hq => ?_⟩ | refine sv1 ?_ | refine svs ⟨?_⟩ | refine svu ⟨fun u => ?_⟩ | (refine svg (fun hg => ?_) (fun hg => ?_) <;> try (exfalso; first | omega | contradiction)) | (refine svc (fun hc => ?_) (fun hc => ?_) <;> try (exfalso; first | omega | contradiction)) | refine sv2 ?_ | refine svh (fun hb => ?_) (fun hb => ?_) | refine svb (fun b => ?_) | refine sva ?_ | refine sv3 ?_)))
      revert b; intro b7
      refine W.dr (by (repeat (apply Sel.ro)); exact Sel.done _) ?_
      (repeat' ((fail_if_success (refine drg ?_)); (first | (refine iS ?_; refine iMu ?_; refine S.mapU ?_) | refine svz ⟨fun b hq => ?_⟩ | refine sv1 ?_ | refine svs ⟨?_⟩ | refine svu ⟨fun u => ?_⟩ | (refine svg (fun hg => ?_) (fun hg => ?_) <;> try (exfalso; first | omega | contradiction)) | (refine svc (fun hc => ?_) (fun hc => ?_) <;> try (exfalso; first | omega | contradiction)) | refine sv2 ?_ | refine svh (fun hb => ?_) (fun hb => ?_) | refine svb (fun b => ?_) | refine sva ?_ | refine sv3 ?_)))
      refine R2.C (hr1 _) ?_
      (repeat' ((fail_if_success (refine drg ?_)); (first | (refine iS ?_; refine iMu ?_; refine S.mapU ?_) | refine svz ⟨fun b hq => ?_⟩ | refine sv1 ?_ | refine svs ⟨?_⟩ | refine svu ⟨fun u => ?_⟩ | (refine svg (fun hg => ?_) (fun hg => ?_) <;> try (exfalso; first | omega | contradiction)) | (refine svc (fun hc => ?_) (fun hc => ?_) <;> try (exfalso; first | omega | contradiction)) | refine sv2 ?_ | refine svh (fun hb => ?_) (fun hb => ?_) | refine svb (fun b => ?_) | refine sva ?_ | refine sv3 ?_)))
      refine R2.C (hr2 _) ?_
      (repeat' ((fail_if_success (refine drg ?_)); (first | (refine iS ?_; refine iMu ?_; refine S.mapU ?_) | refine svz ⟨fun b hq => ?_⟩ | refine sv1 ?_ | refine svs ⟨?_⟩ | refine svu ⟨fun u => ?_⟩ | (refine svg (fun hg => ?_) (fun hg => ?_) <;> try (exfalso; first | omega | contradiction)) | (refine svc (fun hc => ?_) (fun hc => ?_) <;> try (exfalso; first | omega | contradiction)) | refine sv2 ?_ | refine svh (fun hb => ?_) (fun hb => ?_) | refine svb (fun b => ?_) | refine sva ?_ | refine sv3 ?_)))
      refine R2.alloc2 (fun b8 b9 => ?_)
      by_cases hft : (min (min (s2 - 1) a2) c2) ≤ (max (max (s1 + 1) a1) c1)
      · rw [if_pos hft] at hrp
        subst hrp
        (repeat' ((fail_if_success (refine drg ?_)); (first | (refine iS ?_; refine iMu ?_; refine S.mapU ?_) | refine svz ⟨fun b hq => ?_⟩ | refine sv1 ?_ | refine svs ⟨?_⟩ | refine svu ⟨fun u => ?_⟩ | (refine svg (fun hg => ?_) (fun hg => ?_) <;> try (exfalso; first | omega | contradiction)) | (refine svc (fun hc => ?_) (fun hc => ?_) <;> try (exfalso; first | omega | contradiction)) | refine sv2 ?_ | refine svh (fun hb => ?_) (fun hb => ?_) | refine svb (fun b => ?_) | refine sva ?_ | refine sv3 ?_)))
        refine Step.le (s' := ⟨69, [(51, .agg [.val (.int .i64 s1), .val (.int .i64 s2)]), (50, .val (.int .i64 p1)), (49, .val vo), (5, .val (.pointer (some ⟨b5, 0, none⟩)))], .own vo 4 (O.map RC.enc) 26 :: .box b5 [.val vo] 34 :: .box b1 [.val (.int .i64 r.x), .val (.int .i64 r.y), .val (.int .i64 r.w), .val (.int .i64 r.h)] 26 :: .box b2 [.val (.slice none 0 0)] 36 :: h⟩) ⟨rfl, (by repeat (first | exact LeT.nil | refine LeT.cons rfl ?_ | refine LeT.consw rfl (by (repeat (first | exact Wk.refl _ | exact Wk.nilr _ | exact Wk.nilm | apply Wk.aggc | apply Wk.tupc | exact Wk.aggn | exact Wk.tupn)); first | done | fail) ?_)), (by repeat (first | exact LeH.refl _ | exact LeH.nil _ | refine LeH.cons (by (fail_if_success (apply tkG)); (repeat (first | exact Tk.here | apply Tk.there)); first | done | fail) ?_ | refine LeH.boxw (by (fail_if_success (apply tkG)); (repeat (first | exact Tk.here | apply Tk.there)); first | done | fail) (by (repeat (first | exact Wk.refl _ | exact Wk.nilr _ | exact Wk.nilm | apply Wk.aggc | apply Wk.tupc | exact Wk.aggn | exact Wk.tupn)); first | done | fail) ?_ | refine LeH.skip ?_))⟩ ?_
        refine S.call ?_
        refine (hput O p1 (s1, s2) vo _ (by omega) (by dsimp only; omega)).mono ?_
        rintro r' h' ⟨w, rfl, hh⟩; subst hh
        (repeat' ((fail_if_success (refine drg ?_)); (first | (refine iS ?_; refine iMu ?_; refine S.mapU ?_) | refine svz ⟨fun b hq => ?_⟩ | refine sv1 ?_ | refine svs ⟨?_⟩ | refine svu ⟨fun u => ?_⟩ | (refine svg (fun hg => ?_) (fun hg => ?_) <;> try (exfalso; first | omega | contradiction)) | (refine svc (fun hc => ?_) (fun hc => ?_) <;> try (exfalso; first | omega | contradiction)) | refine sv2 ?_ | refine svh (fun hb => ?_) (fun hb => ?_) | refine svb (fun b => ?_) | refine sva ?_ | refine sv3 ?_)))
        exact ⟨.box b5 [.val w] 34 :: .own w 4 (((O ++ putF p1 (s1, s2))).map RC.enc) 26 :: .box b1 [.val (.int .i64 r.x), .val (.int .i64 r.y), .val (.int .i64 r.w), .val (.int .i64 r.h)] 26 :: .box b2 [.val (.slice none 0 0)] 36 :: h, (by repeat (first | exact LeH.refl _ | exact LeH.nil _ | refine LeH.cons (by (fail_if_success (apply tkG)); (repeat (first | exact Tk.here | apply Tk.there)); first | done | fail) ?_ | refine LeH.boxw (by (fail_if_success (apply tkG)); (repeat (first | exact Tk.here | apply Tk.there)); first | done | fail) (by (repeat (first | exact Wk.refl _ | exact Wk.nilr _ | exact Wk.nilm | apply Wk.aggc | apply Wk.tupc | exact Wk.aggn | exact Wk.tupn)); first | done | fail) ?_ | refine LeH.skip ?_)), w, rfl⟩
      · rw [if_neg hft] at hrp
        subst hrp
        (repeat' ((fail_if_success (refine drg ?_)); (first | (refine iS ?_; refine iMu ?_; refine S.mapU ?_) | refine svz ⟨fun b hq => ?_⟩ | refine sv1 ?_ | refine svs ⟨?_⟩ | refine svu ⟨fun u => ?_⟩ | (refine svg (fun hg => ?_) (fun hg => ?_) <;> try (exfalso; first | omega | contradiction)) | (refine svc (fun hc => ?_) (fun hc => ?_) <;> try (exfalso; first | omega | contradiction)) | refine sv2 ?_ | refine svh (fun hb => ?_) (fun hb => ?_) | refine svb (fun b => ?_) | refine sva ?_ | refine sv3 ?_)))
        refine Step.le (s' := ⟨69, [(58, .agg [.val (.int .i64 s1), .val (.int .i64 (max (max (s1 + 1) a1) c1))]), (54, .val (.int .i64 p1)), (53, .val vo), (11, .val (.int .i64 (min (min (s2 - 1) a2) c2))), (10, .val (.int .i64 (max (max (s1 + 1) a1) c1))), (7, .val (.pointer (some ⟨b7, 0, none⟩))), (6, .val (.int .i64 p1)), (5, .val (.pointer (some ⟨b5, 0, none⟩)))], .own vo 4 (O.map RC.enc) 26 :: .box b5 [.val vo] 34 :: .box b7 [.val (.int .i64 s1), .val (.int .i64 s2)] 51 :: .box b1 [.val (.int .i64 r.x), .val (.int .i64 r.y), .val (.int .i64 r.w), .val (.int .i64 r.h)] 26 :: .box b2 [.val (.slice none 0 0)] 36 :: h⟩) ⟨rfl, (by repeat (first | exact LeT.nil | refine LeT.cons rfl ?_ | refine LeT.consw rfl (by (repeat (first | exact Wk.refl _ | exact Wk.nilr _ | exact Wk.nilm | apply Wk.aggc | apply Wk.tupc | exact Wk.aggn | exact Wk.tupn)); first | done | fail) ?_)), (by repeat (first | exact LeH.refl _ | exact LeH.nil _ | refine LeH.cons (by (fail_if_success (apply tkG)); (repeat (first | exact Tk.here | apply Tk.there)); first | done | fail) ?_ | refine LeH.boxw (by (fail_if_success (apply tkG)); (repeat (first | exact Tk.here | apply Tk.there)); first | done | fail) (by (repeat (first | exact Wk.refl _ | exact Wk.nilr _ | exact Wk.nilm | apply Wk.aggc | apply Wk.tupc | exact Wk.aggn | exact Wk.tupn)); first | done | fail) ?_ | refine LeH.skip ?_))⟩ ?_
        refine S.call ?_
        refine (hput O p1 (s1, (max (max (s1 + 1) a1) c1)) vo _ (by omega) (by dsimp only; omega)).mono ?_
        rintro r' h' ⟨w, rfl, hh⟩; subst hh
        (repeat' ((fail_if_success (refine drg ?_)); (first | (refine iS ?_; refine iMu ?_; refine S.mapU ?_) | refine svz ⟨fun b hq => ?_⟩ | refine sv1 ?_ | refine svs ⟨?_⟩ | refine svu ⟨fun u => ?_⟩ | (refine svg (fun hg => ?_) (fun hg => ?_) <;> try (exfalso; first | omega | contradiction)) | (refine svc (fun hc => ?_) (fun hc => ?_) <;> try (exfalso; first | omega | contradiction)) | refine sv2 ?_ | refine svh (fun hb => ?_) (fun hb => ?_) | refine svb (fun b => ?_) | refine sva ?_ | refine sv3 ?_)))
        refine Step.le (s' := ⟨69, [(65, .agg [.val (.int .i64 (min (min (s2 - 1) a2) c2)), .val (.int .i64 s2)]), (61, .val (.int .i64 p1)), (60, .val w), (5, .val (.pointer (some ⟨b5, 0, none⟩)))], .own w 4 ((O ++ putF p1 (s1, (max (max (s1 + 1) a1) c1))).map RC.enc) 26 :: .box b5 [.val w] 34 :: .box b1 [.val (.int .i64 r.x), .val (.int .i64 r.y), .val (.int .i64 r.w), .val (.int .i64 r.h)] 26 :: .box b2 [.val (.slice none 0 0)] 36 :: h⟩) ⟨rfl, (by repeat (first | exact LeT.nil | refine LeT.cons rfl ?_ | refine LeT.consw rfl (by (repeat (first | exact Wk.refl _ | exact Wk.nilr _ | exact Wk.nilm | apply Wk.aggc | apply Wk.tupc | exact Wk.aggn | exact Wk.tupn)); first | done | fail) ?_)), (by repeat (first | exact LeH.refl _ | exact LeH.nil _ | refine LeH.cons (by (fail_if_success (apply tkG)); (repeat (first | exact Tk.here | apply Tk.there)); first | done | fail) ?_ | refine LeH.boxw (by (fail_if_success (apply tkG)); (repeat (first | exact Tk.here | apply Tk.there)); first | done | fail) (by (repeat (first | exact Wk.refl _ | exact Wk.nilr _ | exact Wk.nilm | apply Wk.aggc | apply Wk.tupc | exact Wk.aggn | exact Wk.tupn)); first | done | fail) ?_ | refine LeH.skip ?_))⟩ ?_
        have hl2 : (O ++ putF p1 (s1, (max (max (s1 + 1) a1) c1))).length ≤ 8193 := by rw [List.length_append]; have := putF_len p1 (s1, (max (max (s1 + 1) a1) c1)); omega
        refine S.call ?_
        refine (hput (O ++ putF p1 (s1, (max (max (s1 + 1) a1) c1))) p1 ((min (min (s2 - 1) a2) c2), s2) w _ (by omega) (by dsimp only; omega)).mono ?_
        rintro r' h' ⟨w2, rfl, hh⟩; subst hh
        (repeat' ((fail_if_success (refine drg ?_)); (first | (refine iS ?_; refine iMu ?_; refine S.mapU ?_) | refine svz ⟨fun b hq => ?_⟩ | refine sv1 ?_ | refine svs ⟨?_⟩ | refine svu ⟨fun u => ?_⟩ | (refine svg (fun hg => ?_) (fun hg => ?_) <;> try (exfalso; first | omega | contradiction)) | (refine svc (fun hc => ?_) (fun hc => ?_) <;> try (exfalso; first | omega | contradiction)) | refine sv2 ?_ | refine svh (fun hb => ?_) (fun hb => ?_) | refine svb (fun b => ?_) | refine sva ?_ | refine sv3 ?_)))
        rw [← List.append_assoc]
        exact ⟨.box b5 [.val w2] 34 :: .own w2 4 (((O ++ putF p1 (s1, (max (max (s1 + 1) a1) c1)) ++ putF p1 ((min (min (s2 - 1) a2) c2), s2))).map RC.enc) 26 :: .box b1 [.val (.int .i64 r.x), .val (.int .i64 r.y), .val (.int .i64 r.w), .val (.int .i64 r.h)] 26 :: .box b2 [.val (.slice none 0 0)] 36 :: h, (by repeat (first | exact LeH.refl _ | exact LeH.nil _ | refine LeH.cons (by (fail_if_success (apply tkG)); (repeat (first | exact Tk.here | apply Tk.there)); first | done | fail) ?_ | refine LeH.boxw (by (fail_if_success (apply tkG)); (repeat (first | exact Tk.here | apply Tk.there)); first | done | fail) (by (repeat (first | exact Wk.refl _ | exact Wk.nilr _ | exact Wk.nilm | apply Wk.aggc | apply Wk.tupc | exact Wk.aggn | exact Wk.tupn)); first | done | fail) ?_ | refine LeH.skip ?_)), w2, rfl⟩
    · rintro hh ⟨vo, rfl⟩
      rw [List.length_map, List.take_length]
      show InBlock _ _ _ ⟨_, _, .box g [.val (.int .i64 r.x), .val (.int .i64 r.y), .val (.int .i64 r.w), .val (.int .i64 r.h)] 26 :: .box b5 [.val vo] 34 :: .own vo 4 ((ringL r).map RC.enc) 26 :: .box b1 [.val (.int .i64 r.x), .val (.int .i64 r.y), .val (.int .i64 r.w), .val (.int .i64 r.h)] 26 :: .box b2 [.val (.slice none 0 0)] 36 :: h⟩
      have hl : (ringL r).length ≤ 8192 := by
        have h1 := flatMap_len (l := rowsF r r.h.toNat) (f := fun p => ringP r p.1 p.2) (c := 2) fun a _ => ringP_len _ _ _
        have h2 := rowsF_len r r.h.toNat
        obtain ⟨_, ⟨_, _, o8⟩, _⟩ := hk
        unfold ringL
        omega
      have hof := fun h => of_c (ringL r) h (by omega) (fun q hq => (ring_cnt hk q hq).ok)
      (repeat' (first | (refine iS ?_; refine iMu ?_; refine S.mapU ?_) | refine svz ⟨fun b hq => ?_⟩ | refine sv1 ?_ | refine svs ⟨?_⟩ | refine svu ⟨fun u => ?_⟩ | (refine svg (fun hg => ?_) (fun hg => ?_) <;> try (exfalso; first | omega | contradiction)) | (refine svc (fun hc => ?_) (fun hc => ?_) <;> try (exfalso; first | omega | contradiction)) | refine sv2 ?_ | refine svh (fun hb => ?_) (fun hb => ?_) | refine svb (fun b => ?_) | refine sva ?_ | refine sv3 ?_))
      refine Step.frz (v := vo) (by (fail_if_success (apply tkG)); (repeat (first | exact Tk.here | apply Tk.there)); first | done | fail) (by repeat' (first | apply FrzT.cons | exact FrzT.rest _ | exact Frz.hit | apply Frz.aggc | apply Frz.tupc | exact Frz.aggn | exact Frz.tupn | exact Frz.keep _)) (by repeat' (first | apply FrzH.box | apply FrzH.keep | exact FrzH.rest _ | exact Frz.hit | apply Frz.aggc | apply Frz.tupc | exact Frz.aggn | exact Frz.tupn | exact Frz.keep _)) ?_
      refine S.call ?_; refine (hof _).mono ?_; rintro r h' ⟨rfl, hh⟩; subst hh
      (repeat' (first | (refine iS ?_; refine iMu ?_; refine S.mapU ?_) | refine svz ⟨fun b hq => ?_⟩ | refine sv1 ?_ | refine svs ⟨?_⟩ | refine svu ⟨fun u => ?_⟩ | (refine svg (fun hg => ?_) (fun hg => ?_) <;> try (exfalso; first | omega | contradiction)) | (refine svc (fun hc => ?_) (fun hc => ?_) <;> try (exfalso; first | omega | contradiction)) | refine sv2 ?_ | refine svh (fun hb => ?_) (fun hb => ?_) | refine svb (fun b => ?_) | refine sva ?_ | refine sv3 ?_))
      exact fin_r (h' := h) ⟨rfl, rfl⟩
  · have ed : ringF r = [] := if_neg hk
    have e0 : errF r ≠ 0 := fun q => hk (errF_0.1 q)
    rw [ed]
    refine ACalls.wk (Q := fun v h' => v = .tup [.agg [.val (.slice none 0 0)], .val (.int .i64 (errF r))] ∧ h' = h) ?_ ?_
    · show ACalls Try.prog 15 [.agg [.val (.int .i64 r.x), .val (.int .i64 r.y), .val (.int .i64 r.w), .val (.int .i64 r.h)]] h _
      generalize errF r = e at *
      refine ACalls.intro Try.func15 rfl Try.ntmps15 Try.results15 (Nat.le_of_ble_eq_true rfl) ?_
      (repeat' (first | (refine iS ?_; refine iMu ?_; refine S.mapU ?_) | refine svz ⟨fun b hq => ?_⟩ | refine sv1 ?_ | refine svs ⟨?_⟩ | refine svu ⟨fun u => ?_⟩ | (refine svg (fun hg => ?_) (fun hg => ?_) <;> try (exfalso; first | omega | contradiction)) | (refine svc (fun hc => ?_) (fun hc => ?_) <;> try (exfalso; first | omega | contradiction)) | refine sv2 ?_ | refine svh (fun hb => ?_) (fun hb => ?_) | refine svb (fun b => ?_) | refine sva ?_ | refine sv3 ?_))
      refine S.call ?_; refine (chk _).mono ?_; rintro r h' ⟨rfl, hh⟩; subst hh
      (repeat' (first | (refine iS ?_; refine iMu ?_; refine S.mapU ?_) | refine svz ⟨fun b hq => ?_⟩ | refine sv1 ?_ | refine svs ⟨?_⟩ | refine svu ⟨fun u => ?_⟩ | (refine svg (fun hg => ?_) (fun hg => ?_) <;> try (exfalso; first | omega | contradiction)) | (refine svc (fun hc => ?_) (fun hc => ?_) <;> try (exfalso; first | omega | contradiction)) | refine sv2 ?_ | refine svh (fun hb => ?_) (fun hb => ?_) | refine svb (fun b => ?_) | refine sva ?_ | refine sv3 ?_))
      exact fin_r (h' := _) ⟨rfl, rfl⟩
    · rintro v h' ⟨rfl, rfl⟩
      exact ⟨_, (by (repeat (first | exact Wk.refl _ | exact Wk.nilr _ | exact Wk.nilm | apply Wk.aggc | apply Wk.tupc | exact Wk.aggn | exact Wk.tupn)); first | done | fail), rfl, rfl⟩
end Go.Proofs.Ytmkpffckhdofbaa
