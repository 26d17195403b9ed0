/- arc: Disc, Ring, Span, Inside. No condition. -/
import Derived.Test.YtmkpffckhdofbaaA3
import Derived.Test.YtmkpffckhdofbaaB15
namespace Go.Proofs.Ytmkpffckhdofbaa
open Go Go.VM
attribute [local irreducible] PurV Pur Step RL W D ACalls Then InBlock Fini
set_option linter.unusedVariables false
set_option linter.unusedSimpArgs false
set_option maxHeartbeats 20000000
theorem RC.cnt.ok {r : RC} (h : r.cnt) : r.ok := by
  obtain ⟨⟨a, b, c⟩, d, e, f⟩ := h
  constructor <;> (unfold I64; omega)
theorem aok.ok {r : RC} (h : aok r) : r.ok := by
  obtain ⟨⟨⟨o1, o2⟩, o3, o4⟩, ⟨⟨o5, o6⟩, o7, o8⟩, o9, o10⟩ := h
  constructor <;> (unfold I64; omega)
def discF (r : RC) : List RC := if aok r then ofF (discL r) else []
def ringF (r : RC) : List RC := if aok r then ofF (ringL r) else []
theorem rows_take {r : RC} {k : Nat} {p : Int × (Int × Int)} (h : (rowsF r r.h.toNat)[k]? = some p) : (rowsF r r.h.toNat).take (k + 1) = (rowsF r r.h.toNat).take k ++ [p] := by rw [List.take_add_one, h]; rfl
set_option maxRecDepth 100000 in
theorem disc_c (r : RC) (h : Heap) (ok : r.ok) : ACalls Try.prog 14 [r.enc] h (fun v h' => v = .tup [regE (discF r), .val (.int .i64 (errF r))] ∧ h' = h) := by
  have chk := fun h => check_c r h ok
  by_cases hk : aok r
  · have e0 : errF r = 0 := errF_0.2 hk
    have ed : discF r = ofF (discL r) := if_pos hk
    rw [e0] at chk
    rw [e0, ed]
    show ACalls Try.prog 14 [.agg [.val (.int .i64 r.x), .val (.int .i64 r.y), .val (.int .i64 r.w), .val (.int .i64 r.h)]] h _
    unfold regE
    refine ACalls.intro Try.func14 rfl Try.ntmps14 Try.results14 (Nat.le_of_ble_eq_true rfl) ?_
    (repeat' (first | (refine iS ?_; refine iMu ?_; refine S.mapU ?_) | refine svz ⟨fun b hq => ?_⟩ | refine sv1 ?_ | refine svs ⟨?_⟩ | refine svu ⟨fun u => ?_⟩ | (refine svg (fun hg => ?_) (fun hg => ?_) <;> try (exfalso; first | omega | contradiction)) | (refine svc (fun hc => ?_) (fun hc => ?_) <;> try (exfalso; first | omega | contradiction)) | refine sv2 ?_ | refine svh (fun hb => ?_) (fun hb => ?_) | refine svb (fun b => ?_) | refine sva ?_ | refine sv3 ?_))
    rename_i b1
    revert b; intro b2
    refine S.call ?_; refine (chk _).mono ?_; rintro r h' ⟨rfl, hh⟩; subst hh
    (repeat' (first | (refine iS ?_; refine iMu ?_; refine S.mapU ?_) | refine svz ⟨fun b hq => ?_⟩ | refine sv1 ?_ | refine svs ⟨?_⟩ | refine svu ⟨fun u => ?_⟩ | (refine svg (fun hg => ?_) (fun hg => ?_) <;> try (exfalso; first | omega | contradiction)) | (refine svc (fun hc => ?_) (fun hc => ?_) <;> try (exfalso; first | omega | contradiction)) | refine sv2 ?_ | refine svh (fun hb => ?_) (fun hb => ?_) | refine svb (fun b => ?_) | refine sva ?_ | refine sv3 ?_))
    revert b; intro b5
    refine S.call ?_
    refine (rows_c r _).mono ?_
    rintro r' h' ⟨g, rfl, hh⟩; subst hh
    (repeat' (first | (refine iS ?_; refine iMu ?_; refine S.mapU ?_) | refine svz ⟨fun b hq => ?_⟩ | refine sv1 ?_ | refine svs ⟨?_⟩ | refine svu ⟨fun u => ?_⟩ | (refine svg (fun hg => ?_) (fun hg => ?_) <;> try (exfalso; first | omega | contradiction)) | (refine svc (fun hc => ?_) (fun hc => ?_) <;> try (exfalso; first | omega | contradiction)) | refine sv2 ?_ | refine svh (fun hb => ?_) (fun hb => ?_) | refine svb (fun b => ?_) | refine sva ?_ | refine sv3 ?_))
    refine W.nil_ 4 26 ?_
    refine W.le (s' := ⟨24, [(15, .clo (.func 47) [.val (.pointer (some ⟨g, 0, none⟩))]), (5, .val (.pointer (some ⟨b5, 0, none⟩))), (2, .val (.pointer (some ⟨b2, 0, none⟩)))], .box g [.val (.int .i64 r.x), .val (.int .i64 r.y), .val (.int .i64 r.w), .val (.int .i64 r.h)] 26 :: .box b5 [.val (.slice none 0 0)] 34 :: .own (.slice none 0 0) 4 ((([] : List RC)).map RC.enc) 26 :: .box b1 [.val (.int .i64 r.x), .val (.int .i64 r.y), .val (.int .i64 r.w), .val (.int .i64 r.h)] 26 :: .box b2 [.val (.slice none 0 0)] 36 :: h⟩) ⟨rfl, (by repeat (first | exact LeT.nil | refine LeT.cons rfl ?_ | refine LeT.consw rfl (by (repeat (first | exact Wk.refl _ | exact Wk.nilr _ | exact Wk.nilm | apply Wk.aggc | apply Wk.tupc | exact Wk.aggn | exact Wk.tupn)); first | done | fail) ?_)), (by repeat (first | exact LeH.refl _ | exact LeH.nil _ | refine LeH.cons (by (fail_if_success (apply tkG)); (repeat (first | exact Tk.here | apply Tk.there)); first | done | fail) ?_ | refine LeH.boxw (by (fail_if_success (apply tkG)); (repeat (first | exact Tk.here | apply Tk.there)); first | done | fail) (by (repeat (first | exact Wk.refl _ | exact Wk.nilr _ | exact Wk.nilm | apply Wk.aggc | apply Wk.tupc | exact Wk.aggn | exact Wk.tupn)); first | done | fail) ?_ | refine LeH.skip ?_))⟩ ?_
    refine W.range (fun k hh => ∃ vo, hh = .box b5 [.val vo] 34 :: .own vo 4 ((((rowsF r r.h.toNat).take k).flatMap fun p => putF p.1 p.2).map RC.enc) 26 :: .box b1 [.val (.int .i64 r.x), .val (.int .i64 r.y), .val (.int .i64 r.w), .val (.int .i64 r.h)] 26 :: .box b2 [.val (.slice none 0 0)] 36 :: h)
      (fun _ _ => False) (rows_iter r g hk) ⟨.slice none 0 0, by rw [List.take_zero]⟩ ?_ ?_ (fun c h hf => hf.elim) (fun x hx => by obtain ⟨s, _, rfl⟩ := List.mem_map.1 hx; rfl) (by repeat (first | exact LeH.refl _ | exact LeH.nil _ | refine LeH.cons (by (fail_if_success (apply tkG)); (repeat (first | exact Tk.here | apply Tk.there)); first | done | fail) ?_ | refine LeH.boxw (by (fail_if_success (apply tkG)); (repeat (first | exact Tk.here | apply Tk.there)); first | done | fail) (by (repeat (first | exact Wk.refl _ | exact Wk.nilr _ | exact Wk.nilm | apply Wk.aggc | apply Wk.tupc | exact Wk.aggn | exact Wk.tupn)); first | done | fail) ?_ | refine LeH.skip ?_))
    · rintro lp k x hh ⟨vo, rfl⟩ hx
      rw [List.getElem?_map] at hx
      obtain ⟨p, hp, rfl⟩ := Option.map_eq_some_iff.1 hx
      obtain ⟨p1, p2⟩ := p
      have hmem : p2 = rowF r p1 ∧ p2.1 < p2.2 := (mem_rowsF hk).1 (List.mem_of_getElem? hp)
      have hsb : (-4000000 ≤ p2.1 ∧ p2.1 ≤ 4000000) ∧ -4000000 ≤ p2.2 ∧ p2.2 ≤ 4000000 := by
        obtain ⟨⟨⟨o1, o2⟩, o3, o4⟩, ⟨⟨o5, o6⟩, o7, o8⟩, o9, o10⟩ := hk
        rcases rowF_in ⟨⟨⟨o1, o2⟩, o3, o4⟩, ⟨⟨o5, o6⟩, o7, o8⟩, o9, o10⟩ p1 with q | ⟨q1, q2, q3, _⟩
        · rw [hmem.1, q]; simp
        · rw [hmem.1]; omega
      have hlen : (((rowsF r r.h.toNat).take k).flatMap fun p => putF p.1 p.2).length ≤ 4096 := by
        have h1 := flatMap_len (l := (rowsF r r.h.toNat).take k) (f := fun p => putF p.1 p.2) (c := 1) fun a _ => putF_len _ _
        have h2 := rowsF_len r r.h.toNat
        rw [List.length_take] at h1
        obtain ⟨_, ⟨_, _, o8⟩, _⟩ := hk
        omega
      rw [rows_take hp, List.flatMap_append]
      simp only [List.flatMap_cons, List.flatMap_nil, List.append_nil]
      generalize ((rowsF r r.h.toNat).take k).flatMap (fun p => putF p.1 p.2) = O at *
      show W _ _ _ _ ⟨24, (17, stE p2) :: (16, .val (.int .i64 p1)) :: _, _⟩
      unfold stE
      have hput := fun v h => put_c O p1 p2 v h (by omega) hsb
      unfold stE at hput
      (repeat' (first | (refine iS ?_; refine iMu ?_; refine S.mapU ?_) | refine svz ⟨fun b hq => ?_⟩ | refine sv1 ?_ | refine svs ⟨?_⟩ | refine svu ⟨fun u => ?_⟩ | (refine svg (fun hg => ?_) (fun hg => ?_) <;> try (exfalso; first | omega | contradiction)) | (refine svc (fun hc => ?_) (fun hc => ?_) <;> try (exfalso; first | omega | contradiction)) | refine sv2 ?_ | refine svh (fun hb => ?_) (fun hb => ?_) | refine svb (fun b => ?_) | refine sva ?_ | refine sv3 ?_))
      refine Step.le (s' := ⟨24, [(20, .agg [.val (.int .i64 p2.1), .val (.int .i64 p2.2)]), (19, .val (.int .i64 p1)), (18, .val vo), (5, .val (.pointer (some ⟨b5, 0, none⟩)))], .own vo 4 (O.map RC.enc) 26 :: .box b5 [.val vo] 34 :: .box b1 [.val (.int .i64 r.x), .val (.int .i64 r.y), .val (.int .i64 r.w), .val (.int .i64 r.h)] 26 :: .box b2 [.val (.slice none 0 0)] 36 :: h⟩) ⟨rfl, (by repeat (first | exact LeT.nil | refine LeT.cons rfl ?_ | refine LeT.consw rfl (by (repeat (first | exact Wk.refl _ | exact Wk.nilr _ | exact Wk.nilm | apply Wk.aggc | apply Wk.tupc | exact Wk.aggn | exact Wk.tupn)); first | done | fail) ?_)), (by repeat (first | exact LeH.refl _ | exact LeH.nil _ | refine LeH.cons (by (fail_if_success (apply tkG)); (repeat (first | exact Tk.here | apply Tk.there)); first | done | fail) ?_ | refine LeH.boxw (by (fail_if_success (apply tkG)); (repeat (first | exact Tk.here | apply Tk.there)); first | done | fail) (by (repeat (first | exact Wk.refl _ | exact Wk.nilr _ | exact Wk.nilm | apply Wk.aggc | apply Wk.tupc | exact Wk.aggn | exact Wk.tupn)); first | done | fail) ?_ | refine LeH.skip ?_))⟩ ?_
      refine S.call ?_
      refine (hput vo _).mono ?_
      rintro r' h' ⟨w, rfl, hh⟩; subst hh
      (repeat' (first | (refine iS ?_; refine iMu ?_; refine S.mapU ?_) | refine svz ⟨fun b hq => ?_⟩ | refine sv1 ?_ | refine svs ⟨?_⟩ | refine svu ⟨fun u => ?_⟩ | (refine svg (fun hg => ?_) (fun hg => ?_) <;> try (exfalso; first | omega | contradiction)) | (refine svc (fun hc => ?_) (fun hc => ?_) <;> try (exfalso; first | omega | contradiction)) | refine sv2 ?_ | refine svh (fun hb => ?_) (fun hb => ?_) | refine svb (fun b => ?_) | refine sva ?_ | refine sv3 ?_))
      exact ⟨.box b5 [.val w] 34 :: .own w 4 (((O ++ putF p1 p2)).map RC.enc) 26 :: .box b1 [.val (.int .i64 r.x), .val (.int .i64 r.y), .val (.int .i64 r.w), .val (.int .i64 r.h)] 26 :: .box b2 [.val (.slice none 0 0)] 36 :: h, (by repeat (first | exact LeH.refl _ | exact LeH.nil _ | refine LeH.cons (by (fail_if_success (apply tkG)); (repeat (first | exact Tk.here | apply Tk.there)); first | done | fail) ?_ | refine LeH.boxw (by (fail_if_success (apply tkG)); (repeat (first | exact Tk.here | apply Tk.there)); first | done | fail) (by (repeat (first | exact Wk.refl _ | exact Wk.nilr _ | exact Wk.nilm | apply Wk.aggc | apply Wk.tupc | exact Wk.aggn | exact Wk.tupn)); first | done | fail) ?_ | refine LeH.skip ?_)), w, rfl⟩
    · rintro hh ⟨vo, rfl⟩
      rw [List.length_map, List.take_length]
      show InBlock _ _ _ ⟨_, _, .box g [.val (.int .i64 r.x), .val (.int .i64 r.y), .val (.int .i64 r.w), .val (.int .i64 r.h)] 26 :: .box b5 [.val vo] 34 :: .own vo 4 ((discL r).map RC.enc) 26 :: .box b1 [.val (.int .i64 r.x), .val (.int .i64 r.y), .val (.int .i64 r.w), .val (.int .i64 r.h)] 26 :: .box b2 [.val (.slice none 0 0)] 36 :: h⟩
      have hl : (discL r).length ≤ 4096 := by
        have h1 := flatMap_len (l := rowsF r r.h.toNat) (f := fun p => putF p.1 p.2) (c := 1) fun a _ => putF_len _ _
        have h2 := rowsF_len r r.h.toNat
        obtain ⟨_, ⟨_, _, o8⟩, _⟩ := hk
        unfold discL
        omega
      have hof := fun h => of_c (discL r) h (by omega) (fun q hq => (disc_cnt hk q hq).ok)
      (repeat' (first | (refine iS ?_; refine iMu ?_; refine S.mapU ?_) | refine svz ⟨fun b hq => ?_⟩ | refine sv1 ?_ | refine svs ⟨?_⟩ | refine svu ⟨fun u => ?_⟩ | (refine svg (fun hg => ?_) (fun hg => ?_) <;> try (exfalso; first | omega | contradiction)) | (refine svc (fun hc => ?_) (fun hc => ?_) <;> try (exfalso; first | omega | contradiction)) | refine sv2 ?_ | refine svh (fun hb => ?_) (fun hb => ?_) | refine svb (fun b => ?_) | refine sva ?_ | refine sv3 ?_))
      refine Step.frz (v := vo) (by (fail_if_success (apply tkG)); (repeat (first | exact Tk.here | apply Tk.there)); first | done | fail) (by repeat' (first | apply FrzT.cons | exact FrzT.rest _ | exact Frz.hit | apply Frz.aggc | apply Frz.tupc | exact Frz.aggn | exact Frz.tupn | exact Frz.keep _)) (by repeat' (first | apply FrzH.box | apply FrzH.keep | exact FrzH.rest _ | exact Frz.hit | apply Frz.aggc | apply Frz.tupc | exact Frz.aggn | exact Frz.tupn | exact Frz.keep _)) ?_
      refine S.call ?_; refine (hof _).mono ?_; rintro r h' ⟨rfl, hh⟩; subst hh
      (repeat' (first | (refine iS ?_; refine iMu ?_; refine S.mapU ?_) | refine svz ⟨fun b hq => ?_⟩ | refine sv1 ?_ | refine svs ⟨?_⟩ | refine svu ⟨fun u => ?_⟩ | (refine svg (fun hg => ?_) (fun hg => ?_) <;> try (exfalso; first | omega | contradiction)) | (refine svc (fun hc => ?_) (fun hc => ?_) <;> try (exfalso; first | omega | contradiction)) | refine sv2 ?_ | refine svh (fun hb => ?_) (fun hb => ?_) | refine svb (fun b => ?_) | refine sva ?_ | refine sv3 ?_))
      exact fin_r (h' := h) ⟨rfl, rfl⟩
  · have ed : discF r = [] := if_neg hk
    have e0 : errF r ≠ 0 := fun q => hk (errF_0.1 q)
    rw [ed]
    refine ACalls.wk (Q := fun v h' => v = .tup [.agg [.val (.slice none 0 0)], .val (.int .i64 (errF r))] ∧ h' = h) ?_ ?_
    · show ACalls Try.prog 14 [.agg [.val (.int .i64 r.x), .val (.int .i64 r.y), .val (.int .i64 r.w), .val (.int .i64 r.h)]] h _
      generalize errF r = e at *
      refine ACalls.intro Try.func14 rfl Try.ntmps14 Try.results14 (Nat.le_of_ble_eq_true rfl) ?_
      (repeat' (first | (refine iS ?_; refine iMu ?_; refine S.mapU ?_) | refine svz ⟨fun b hq => ?_⟩ | refine sv1 ?_ | refine svs ⟨?_⟩ | refine svu ⟨fun u => ?_⟩ | (refine svg (fun hg => ?_) (fun hg => ?_) <;> try (exfalso; first | omega | contradiction)) | (refine svc (fun hc => ?_) (fun hc => ?_) <;> try (exfalso; first | omega | contradiction)) | refine sv2 ?_ | refine svh (fun hb => ?_) (fun hb => ?_) | refine svb (fun b => ?_) | refine sva ?_ | refine sv3 ?_))
      refine S.call ?_; refine (chk _).mono ?_; rintro r h' ⟨rfl, hh⟩; subst hh
      (repeat' (first | (refine iS ?_; refine iMu ?_; refine S.mapU ?_) | refine svz ⟨fun b hq => ?_⟩ | refine sv1 ?_ | refine svs ⟨?_⟩ | refine svu ⟨fun u => ?_⟩ | (refine svg (fun hg => ?_) (fun hg => ?_) <;> try (exfalso; first | omega | contradiction)) | (refine svc (fun hc => ?_) (fun hc => ?_) <;> try (exfalso; first | omega | contradiction)) | refine sv2 ?_ | refine svh (fun hb => ?_) (fun hb => ?_) | refine svb (fun b => ?_) | refine sva ?_ | refine sv3 ?_))
      exact fin_r (h' := _) ⟨rfl, rfl⟩
    · rintro v h' ⟨rfl, rfl⟩
      exact ⟨_, (by (repeat (first | exact Wk.refl _ | exact Wk.nilr _ | exact Wk.nilm | apply Wk.aggc | apply Wk.tupc | exact Wk.aggn | exact Wk.tupn)); first | done | fail), rfl, rfl⟩
end Go.Proofs.Ytmkpffckhdofbaa
