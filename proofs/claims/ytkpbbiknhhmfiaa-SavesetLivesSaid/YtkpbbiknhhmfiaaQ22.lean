/- Trees: Move. No condition. -/
import Derived.Test.YtkpbbiknhhmfiaaQ21
namespace Go.Proofs.Ytkpbbiknhhmfiaa
open Go Go.VM
attribute [local irreducible] PurV Pur Step RL W D ACalls Then InBlock Fini
set_option linter.unusedVariables false
set_option linter.unusedSimpArgs false
set_option maxHeartbeats 20000000
theorem ent_put {k : SVT} {p : Int} {v w : Value} {L : List Int} (h : (lkF k p).isSome = true) : putF (k.map (entV p v)) p (.val w) = (putF k p L).map (entV p w) := by
  unfold putF
  rw [lkF_ent, h, if_pos rfl, if_pos rfl, List.map_map, List.map_map]
  refine List.map_congr_left fun q _ => ?_
  show (if q.1 = p then (p, AV.val w) else entV p v q) = entV p w (if q.1 = p then (p, L) else q)
  by_cases e : q.1 = p
  · rw [if_pos e, if_pos e]; unfold entV; rw [if_pos rfl]
  · rw [if_neg e, if_neg e]; unfold entV; rw [if_neg e, if_neg e]
theorem lk_entW {p0 p : Int} {v0 v1 : Value} : ∀ (k : SVT), lkF (k.map (entW p0 v0 p v1)) p0 = (lkF k p0).map fun _ => AV.val v0
  | [] => rfl
  | q :: k => by
    have ih := lk_entW (p0 := p0) (p := p) (v0 := v0) (v1 := v1) k
    unfold lkF at *
    rw [List.map_cons, List.find?_cons, List.find?_cons]
    by_cases h : q.1 = p0
    · have e : (entW p0 v0 p v1 q).1 = p0 := h
      simp [h, e, entW]
    · have e : ¬ (entW p0 v0 p v1 q).1 = p0 := h
      simp only [decide_eq_false h, decide_eq_false e]
      exact ih
theorem frz_two {k : SVT} {p0 p : Int} {v0 v1 w : Value} {L : List Int} {bk : Nat} {h : Heap} (h01 : p0 ≠ p) (hs : (lkF k p0).isSome = true) : FrzG w 1 (ints .u32 L) (mpV bk .u32 idA (putF (k.map (entW p0 v0 p v1)) p0 (.val w)) :: h) (mpV bk .u32 idA ((putF k p0 L).map (entV p v1)) :: h) := by
  unfold mpV
  have hs2 : (lkF (k.map (entW p0 v0 p v1)) p0).isSome = true := by rw [lk_entW]; cases e : lkF k p0 with | none => rw [e] at hs; cases hs | some x => rfl
  unfold putF
  rw [hs, hs2, if_pos rfl, if_pos rfl]
  rw [show (((k.map (entW p0 v0 p v1)).map fun p => if p.1 = p0 then (p0, AV.val w) else p).map fun x => (.int .u32 x.1 : Value)) = ((k.map fun p => if p.1 = p0 then (p0, L) else p).map (entV p v1)).map fun x => .int .u32 x.1 by
    rw [List.map_map, List.map_map, List.map_map, List.map_map]
    refine List.map_congr_left fun q _ => ?_
    show (.int .u32 (if q.1 = p0 then (p0, AV.val w) else entW p0 v0 p v1 q).1 : Value) = .int .u32 (if q.1 = p0 then (p0, L) else q).1
    by_cases e : q.1 = p0
    · rw [if_pos e, if_pos e]
    · rw [if_neg e, if_neg e]; rfl]
  refine .mp ?_ (.rest _)
  rw [List.map_map, List.map_map, List.map_map, List.map_map]
  refine frz_agg (by simp) fun i x y hx hy => ?_
  rw [List.getElem?_map, Option.map_eq_some_iff] at hx hy
  obtain ⟨q, h1, rfl⟩ := hx
  obtain ⟨q', h2, rfl⟩ := hy
  obtain rfl := Option.some.inj (h1.symm.trans h2)
  show Frz w 1 (ints .u32 L) (if q.1 = p0 then (p0, AV.val w) else entW p0 v0 p v1 q).2 (entV p v1 (if q.1 = p0 then (p0, L) else q)).2
  by_cases e : q.1 = p0
  · rw [if_pos e, if_pos e]
    unfold entV vIds
    rw [if_neg h01]
    exact .hit
  · rw [if_neg e, if_neg e]
    unfold entV entW
    rw [if_neg e]
    exact .keep _
def mvK (k : SVT) (p0 p id : Int) (L0 : List Int) : SVT := putF (putF k p0 (delL id L0)) p (ofS (putF k p0 (delL id L0)) p ++ [id])
theorem len_delL (id : Int) (L : List Int) : (delL id L).length ≤ L.length := List.length_filter_le _ _
set_option maxRecDepth 100000 in
theorem move_c (k : SVT) (up : UP) (id p p0 : Int) (L0 Rp : List Int) (h : Heap) (hid : id ≠ 1) (hup : lkF up id = some p0) (hk0 : lkF k p0 = some L0) (hpp : Pth up p Rp) (hpl : Rp.length ≤ 1000) (hnr : id ∉ p :: Rp)
    (hn : (k.map (·.1)).Nodup) (hu : (up.map (·.1)).Nodup) (hl : ∀ p ∈ k, p.2.length ≤ 100000) (hkl : k.length ≤ 100000) :
    ACalls Try.prog 24 [encT k up, .val (.int .u32 (id)), .val (.int .u32 (p))] h (fun r h' => r = .tup [encT (mvK k p0 p id L0) (putF up id p), .val (.int .i64 (0))] ∧ h' = h) := by
  have ot := fun h => other_c k up id h
  rw [show othF up id = 0 by unfold othF hasT; rw [if_neg hid, hup]; rfl] at ot
  have t2 := fun h => thas_c k up p h
  rw [hpp.has] at t2
  have pa := fun h => path_c k up p Rp h hpp (by omega)
  have ct := fun h => contains_c (p :: Rp) id h
  rw [decide_eq_false hnr] at ct
  have hL0 : ofS k p0 = L0 := by unfold ofS; rw [hk0]; rfl
  have hL0l : L0.length ≤ 100000 := by rw [← hL0]; exact ofs_len hl p0
  have hs0 : (lkF k p0).isSome = true := by rw [hk0]; rfl
  have hn1 : ((putF k p0 (delL id L0)).map (·.1)).Nodup := putF_nodup _ _ hn
  have hl1 : ∀ c, (ofS (putF k p0 (delL id L0)) c).length ≤ 100000 := fun c => ofs_len (fun x hx => by
    rcases putF_mem hx with rfl | hx
    · exact Nat.le_trans (len_delL _ _) hL0l
    · exact hl x hx) c
  by_cases hpe : p = p0
  · subst hpe
    have tw := fun h => twin_c k up p h hn hu (fun x hx => by have := hl x hx; omega) (by omega)
    rw [hL0] at tw
    have hlk : ∀ v, lkF (k.map (entV p v)) p = some (.val v) := fun v => by rw [lk_ent, hk0]; rfl
    have tk := fun v bk bu h => take_c (k.map (entV p v)) up id p bk bu v L0 h (hlk v) hup (by omega)
    have hep : ∀ v w, putF (k.map (entV p v)) p (.val w) = (putF k p (delL id L0)).map (entV p w) := fun v w => ent_put hs0
    simp only [hep] at tk
    have hod : ofS (putF k p (delL id L0)) p = delL id L0 := by unfold ofS; rw [lk_put_same]; rfl
    have hll := hl1 p
    unfold mvK
    generalize putF k p (delL id L0) = k1 at *
    have pu := fun w bk bu h => put_c k1 up id p bk bu w h hn1 (by omega)
    rw [hod] at pu hll ⊢
    unfold encT at *; refine ACalls.intro Try.func24 rfl Try.ntmps24 Try.results24 (Nat.le_of_ble_eq_true rfl) ?_; (repeat' (first | (refine iS ?_; refine iMu ?_; refine S.mapU ?_) | refine svz ⟨fun b hq => ?_⟩ | refine sv1 ?_ | refine svs ⟨?_⟩ | refine svu ⟨fun u => ?_⟩ | (refine svg (fun hg => ?_) (fun hg => ?_) <;> try (exfalso; first | omega | contradiction)) | (refine svc (fun hc => ?_) (fun hc => ?_) <;> try (exfalso; first | omega | contradiction)) | refine sv2 ?_ | refine svh (fun hb => ?_) (fun hb => ?_) | refine svb (fun b => ?_) | refine sva ?_ | refine sv3 ?_)); refine S.call ?_; refine (ot _).mono ?_; rintro r h' ⟨rfl, hh⟩; subst hh; (repeat' (first | (refine iS ?_; refine iMu ?_; refine S.mapU ?_) | refine svz ⟨fun b hq => ?_⟩ | refine sv1 ?_ | refine svs ⟨?_⟩ | refine svu ⟨fun u => ?_⟩ | (refine svg (fun hg => ?_) (fun hg => ?_) <;> try (exfalso; first | omega | contradiction)) | (refine svc (fun hc => ?_) (fun hc => ?_) <;> try (exfalso; first | omega | contradiction)) | refine sv2 ?_ | refine svh (fun hb => ?_) (fun hb => ?_) | refine svb (fun b => ?_) | refine sva ?_ | refine sv3 ?_)); refine S.call ?_; refine (t2 _).mono ?_; rintro r h' ⟨rfl, hh⟩; subst hh; (repeat' (first | (refine iS ?_; refine iMu ?_; refine S.mapU ?_) | refine svz ⟨fun b hq => ?_⟩ | refine sv1 ?_ | refine svs ⟨?_⟩ | refine svu ⟨fun u => ?_⟩ | (refine svg (fun hg => ?_) (fun hg => ?_) <;> try (exfalso; first | omega | contradiction)) | (refine svc (fun hc => ?_) (fun hc => ?_) <;> try (exfalso; first | omega | contradiction)) | refine sv2 ?_ | refine svh (fun hb => ?_) (fun hb => ?_) | refine svb (fun b => ?_) | refine sva ?_ | refine sv3 ?_)); refine S.call ?_; refine (pa _).mono ?_; rintro r h' ⟨rfl, hh⟩; subst hh; (repeat' (first | (refine iS ?_; refine iMu ?_; refine S.mapU ?_) | refine svz ⟨fun b hq => ?_⟩ | refine sv1 ?_ | refine svs ⟨?_⟩ | refine svu ⟨fun u => ?_⟩ | (refine svg (fun hg => ?_) (fun hg => ?_) <;> try (exfalso; first | omega | contradiction)) | (refine svc (fun hc => ?_) (fun hc => ?_) <;> try (exfalso; first | omega | contradiction)) | refine sv2 ?_ | refine svh (fun hb => ?_) (fun hb => ?_) | refine svb (fun b => ?_) | refine sva ?_ | refine sv3 ?_)); refine S.call ?_; refine (ct _).mono ?_; rintro r h' ⟨rfl, hh⟩; subst hh; (repeat' (first | (refine iS ?_; refine iMu ?_; refine S.mapU ?_) | refine svz ⟨fun b hq => ?_⟩ | refine sv1 ?_ | refine svs ⟨?_⟩ | refine svu ⟨fun u => ?_⟩ | (refine svg (fun hg => ?_) (fun hg => ?_) <;> try (exfalso; first | omega | contradiction)) | (refine svc (fun hc => ?_) (fun hc => ?_) <;> try (exfalso; first | omega | contradiction)) | refine sv2 ?_ | refine svh (fun hb => ?_) (fun hb => ?_) | refine svb (fun b => ?_) | refine sva ?_ | refine sv3 ?_))
    refine S.call ?_
    refine (tw _).mono ?_
    rintro r h' ⟨bk, bu, v, rfl, hh⟩
    subst hh
    (repeat' (first | (refine iS ?_; refine iMu ?_; refine S.mapU ?_) | refine svz ⟨fun b hq => ?_⟩ | refine sv1 ?_ | refine svs ⟨?_⟩ | refine svu ⟨fun u => ?_⟩ | (refine svg (fun hg => ?_) (fun hg => ?_) <;> try (exfalso; first | omega | contradiction)) | (refine svc (fun hc => ?_) (fun hc => ?_) <;> try (exfalso; first | omega | contradiction)) | refine sv2 ?_ | refine svh (fun hb => ?_) (fun hb => ?_) | refine svb (fun b => ?_) | refine sva ?_ | refine sv3 ?_))
    rename_i b3 b6
    revert b; intro b9
    refine Step.le (s' := ⟨38, [(31, .val (.int .u32 (id))), (30, .agg [.val (.map (some bk)), .val (.map (some bu))]), (9, .val (.pointer (some ⟨b9, 0, none⟩))), (6, .val (.pointer (some ⟨b6, 0, none⟩))), (1, .val (.int .u32 (id))), (2, .val (.int .u32 (p))), (7, .val (.int .i64 (0)))], .own v 1 (ints .u32 L0) 43 :: mpV bk .u32 idA (k.map (entV p v)) :: mpV bu .u32 (vI .u32) up :: .box b9 [.val (.map (some bk)), .val (.map (some bu))] 28 :: .box b6 [.val (.map none), .val (.map none)] 28 :: h⟩) ⟨rfl, (by repeat (first | exact LeT.nil | refine LeT.cons rfl ?_ | refine LeT.consw rfl (by (repeat (first | exact Wk.refl _ | exact Wk.nilr _ | exact Wk.nilm | apply Wk.aggc | apply Wk.tupc | exact Wk.aggn | exact Wk.tupn)); first | done | fail) ?_)), (by repeat (first | exact LeH.refl _ | exact LeH.nil _ | refine LeH.cons (by (fail_if_success (apply tkG)); (repeat (first | exact Tk.here | apply Tk.there)); first | done | fail) ?_ | refine LeH.boxw (by (fail_if_success (apply tkG)); (repeat (first | exact Tk.here | apply Tk.there)); first | done | fail) (by (repeat (first | exact Wk.refl _ | exact Wk.nilr _ | exact Wk.nilm | apply Wk.aggc | apply Wk.tupc | exact Wk.aggn | exact Wk.tupn)); first | done | fail) ?_ | refine LeH.skip ?_))⟩ ?_
    refine S.call ?_
    refine (tk v bk bu _).mono ?_
    rintro r h' ⟨w, rfl, hh⟩
    subst hh
    (repeat' (first | (refine iS ?_; refine iMu ?_; refine S.mapU ?_) | refine svz ⟨fun b hq => ?_⟩ | refine sv1 ?_ | refine svs ⟨?_⟩ | refine svu ⟨fun u => ?_⟩ | (refine svg (fun hg => ?_) (fun hg => ?_) <;> try (exfalso; first | omega | contradiction)) | (refine svc (fun hc => ?_) (fun hc => ?_) <;> try (exfalso; first | omega | contradiction)) | refine sv2 ?_ | refine svh (fun hb => ?_) (fun hb => ?_) | refine svb (fun b => ?_) | refine sva ?_ | refine sv3 ?_))
    refine Step.le (s' := ⟨38, [(35, .val (.int .u32 (p))), (34, .val (.int .u32 (id))), (33, .agg [.val (.map (some bk)), .val (.map (some bu))]), (9, .val (.pointer (some ⟨b9, 0, none⟩))), (6, .val (.pointer (some ⟨b6, 0, none⟩))), (1, .val (.int .u32 (id))), (2, .val (.int .u32 (p))), (7, .val (.int .i64 (0)))], mpV bk .u32 idA (k1.map (entV p w)) :: mpV bu .u32 (vI .u32) up :: .own w 1 (ints .u32 (delL id L0)) 43 :: .box b9 [.val (.map (some bk)), .val (.map (some bu))] 28 :: .box b6 [.val (.map none), .val (.map none)] 28 :: h⟩) ⟨rfl, (by repeat (first | exact LeT.nil | refine LeT.cons rfl ?_ | refine LeT.consw rfl (by (repeat (first | exact Wk.refl _ | exact Wk.nilr _ | exact Wk.nilm | apply Wk.aggc | apply Wk.tupc | exact Wk.aggn | exact Wk.tupn)); first | done | fail) ?_)), (by repeat (first | exact LeH.refl _ | exact LeH.nil _ | refine LeH.cons (by (fail_if_success (apply tkG)); (repeat (first | exact Tk.here | apply Tk.there)); first | done | fail) ?_ | refine LeH.boxw (by (fail_if_success (apply tkG)); (repeat (first | exact Tk.here | apply Tk.there)); first | done | fail) (by (repeat (first | exact Wk.refl _ | exact Wk.nilr _ | exact Wk.nilm | apply Wk.aggc | apply Wk.tupc | exact Wk.aggn | exact Wk.tupn)); first | done | fail) ?_ | refine LeH.skip ?_))⟩ ?_
    refine S.call ?_
    refine (pu w bk bu _).mono ?_
    rintro r h' ⟨w2, rfl, hh⟩
    subst hh
    generalize hLL : delL id L0 ++ [id] = LL at *; refine RL.frzg (v := w2) (by (fail_if_success (apply tkG)); (repeat (first | exact Tk.here | apply Tk.there)); first | done | fail) (by repeat' (first | apply FrzT.cons | exact FrzT.rest _ | exact Frz.hit | apply Frz.aggc | apply Frz.tupc | exact Frz.aggn | exact Frz.tupn | exact Frz.keep _)) (by first | exact frz_kids | (repeat' (first | exact frz_kids | apply FrzG.keep | apply FrzG.box | exact Frz.hit | apply Frz.aggc | exact Frz.aggn | exact Frz.keep _))) ?_; generalize putF k1 p LL = k2 at *; generalize putF up id p = u2 at *; refine RL.frzm (b := bk) (by (fail_if_success (apply tkG)); (repeat (first | exact Tk.here | apply Tk.there)); first | done | fail) (by repeat' (first | apply FzT.cons | exact FzT.rest _ | exact Fz.hit | apply Fz.aggc | apply Fz.tupc | exact Fz.aggn | exact Fz.tupn | exact Fz.keep _)) (by repeat' (first | apply FzH.box | apply FzH.keep | exact FzH.rest _ | exact Fz.hit | apply Fz.aggc | apply Fz.tupc | exact Fz.aggn | exact Fz.tupn | exact Fz.keep _)) ?_; refine RL.frzm (b := bu) (by (fail_if_success (apply tkG)); (repeat (first | exact Tk.here | apply Tk.there)); first | done | fail) (by repeat' (first | apply FzT.cons | exact FzT.rest _ | exact Fz.hit | apply Fz.aggc | apply Fz.tupc | exact Fz.aggn | exact Fz.tupn | exact Fz.keep _)) (by repeat' (first | apply FzH.box | apply FzH.keep | exact FzH.rest _ | exact Fz.hit | apply Fz.aggc | apply Fz.tupc | exact Fz.aggn | exact Fz.tupn | exact Fz.keep _)) ?_; (repeat' (first | (refine iS ?_; refine iMu ?_; refine S.mapU ?_) | refine svz ⟨fun b hq => ?_⟩ | refine sv1 ?_ | refine svs ⟨?_⟩ | refine svu ⟨fun u => ?_⟩ | (refine svg (fun hg => ?_) (fun hg => ?_) <;> try (exfalso; first | omega | contradiction)) | (refine svc (fun hc => ?_) (fun hc => ?_) <;> try (exfalso; first | omega | contradiction)) | refine sv2 ?_ | refine svh (fun hb => ?_) (fun hb => ?_) | refine svb (fun b => ?_) | refine sva ?_ | refine sv3 ?_)); exact fin_r (h' := h) ⟨rfl, rfl⟩
  · have tw := fun h => twin2_c k up p0 p h (Ne.symm hpe) hn hu (fun x hx => by have := hl x hx; omega) (by omega)
    rw [hL0] at tw
    have hlk : ∀ v0 v1, lkF (k.map (entW p0 v0 p v1)) p0 = some (.val v0) := fun v0 v1 => by rw [lk_entW, hk0]; rfl
    have tk := fun v0 v1 bk bu h => take_c (k.map (entW p0 v0 p v1)) up id p0 bk bu v0 L0 h (hlk v0 v1) hup (by omega)
    have hod : ofS (putF k p0 (delL id L0)) p = ofS k p := by unfold ofS; rw [lk_put_ne _ _ hpe]
    have hll := hl1 p
    have hfz := fun {v0 v1 w bk h} => frz_two (k := k) (p0 := p0) (p := p) (v0 := v0) (v1 := v1) (w := w) (L := delL id L0) (bk := bk) (h := h) (Ne.symm hpe) hs0
    unfold mvK
    generalize putF k p0 (delL id L0) = k1 at *
    have pu := fun w bk bu h => put_c k1 up id p bk bu w h hn1 (by omega)
    rw [hod] at pu hll ⊢
    generalize ofS k p = Lp at *
    unfold encT at *; refine ACalls.intro Try.func24 rfl Try.ntmps24 Try.results24 (Nat.le_of_ble_eq_true rfl) ?_; (repeat' (first | (refine iS ?_; refine iMu ?_; refine S.mapU ?_) | refine svz ⟨fun b hq => ?_⟩ | refine sv1 ?_ | refine svs ⟨?_⟩ | refine svu ⟨fun u => ?_⟩ | (refine svg (fun hg => ?_) (fun hg => ?_) <;> try (exfalso; first | omega | contradiction)) | (refine svc (fun hc => ?_) (fun hc => ?_) <;> try (exfalso; first | omega | contradiction)) | refine sv2 ?_ | refine svh (fun hb => ?_) (fun hb => ?_) | refine svb (fun b => ?_) | refine sva ?_ | refine sv3 ?_)); refine S.call ?_; refine (ot _).mono ?_; rintro r h' ⟨rfl, hh⟩; subst hh; (repeat' (first | (refine iS ?_; refine iMu ?_; refine S.mapU ?_) | refine svz ⟨fun b hq => ?_⟩ | refine sv1 ?_ | refine svs ⟨?_⟩ | refine svu ⟨fun u => ?_⟩ | (refine svg (fun hg => ?_) (fun hg => ?_) <;> try (exfalso; first | omega | contradiction)) | (refine svc (fun hc => ?_) (fun hc => ?_) <;> try (exfalso; first | omega | contradiction)) | refine sv2 ?_ | refine svh (fun hb => ?_) (fun hb => ?_) | refine svb (fun b => ?_) | refine sva ?_ | refine sv3 ?_)); refine S.call ?_; refine (t2 _).mono ?_; rintro r h' ⟨rfl, hh⟩; subst hh; (repeat' (first | (refine iS ?_; refine iMu ?_; refine S.mapU ?_) | refine svz ⟨fun b hq => ?_⟩ | refine sv1 ?_ | refine svs ⟨?_⟩ | refine svu ⟨fun u => ?_⟩ | (refine svg (fun hg => ?_) (fun hg => ?_) <;> try (exfalso; first | omega | contradiction)) | (refine svc (fun hc => ?_) (fun hc => ?_) <;> try (exfalso; first | omega | contradiction)) | refine sv2 ?_ | refine svh (fun hb => ?_) (fun hb => ?_) | refine svb (fun b => ?_) | refine sva ?_ | refine sv3 ?_)); refine S.call ?_; refine (pa _).mono ?_; rintro r h' ⟨rfl, hh⟩; subst hh; (repeat' (first | (refine iS ?_; refine iMu ?_; refine S.mapU ?_) | refine svz ⟨fun b hq => ?_⟩ | refine sv1 ?_ | refine svs ⟨?_⟩ | refine svu ⟨fun u => ?_⟩ | (refine svg (fun hg => ?_) (fun hg => ?_) <;> try (exfalso; first | omega | contradiction)) | (refine svc (fun hc => ?_) (fun hc => ?_) <;> try (exfalso; first | omega | contradiction)) | refine sv2 ?_ | refine svh (fun hb => ?_) (fun hb => ?_) | refine svb (fun b => ?_) | refine sva ?_ | refine sv3 ?_)); refine S.call ?_; refine (ct _).mono ?_; rintro r h' ⟨rfl, hh⟩; subst hh; (repeat' (first | (refine iS ?_; refine iMu ?_; refine S.mapU ?_) | refine svz ⟨fun b hq => ?_⟩ | refine sv1 ?_ | refine svs ⟨?_⟩ | refine svu ⟨fun u => ?_⟩ | (refine svg (fun hg => ?_) (fun hg => ?_) <;> try (exfalso; first | omega | contradiction)) | (refine svc (fun hc => ?_) (fun hc => ?_) <;> try (exfalso; first | omega | contradiction)) | refine sv2 ?_ | refine svh (fun hb => ?_) (fun hb => ?_) | refine svb (fun b => ?_) | refine sva ?_ | refine sv3 ?_))
    refine S.call ?_
    refine (tw _).mono ?_
    rintro r h' ⟨bk, bu, v, v1, rfl, hh⟩
    subst hh
    (repeat' (first | (refine iS ?_; refine iMu ?_; refine S.mapU ?_) | refine svz ⟨fun b hq => ?_⟩ | refine sv1 ?_ | refine svs ⟨?_⟩ | refine svu ⟨fun u => ?_⟩ | (refine svg (fun hg => ?_) (fun hg => ?_) <;> try (exfalso; first | omega | contradiction)) | (refine svc (fun hc => ?_) (fun hc => ?_) <;> try (exfalso; first | omega | contradiction)) | refine sv2 ?_ | refine svh (fun hb => ?_) (fun hb => ?_) | refine svb (fun b => ?_) | refine sva ?_ | refine sv3 ?_))
    rename_i b3 b6
    revert b; intro b9
    refine Step.le (s' := ⟨38, [(31, .val (.int .u32 (id))), (30, .agg [.val (.map (some bk)), .val (.map (some bu))]), (9, .val (.pointer (some ⟨b9, 0, none⟩))), (6, .val (.pointer (some ⟨b6, 0, none⟩))), (1, .val (.int .u32 (id))), (2, .val (.int .u32 (p))), (7, .val (.int .i64 (0)))], .own v 1 (ints .u32 L0) 43 :: mpV bk .u32 idA (k.map (entW p0 v p v1)) :: mpV bu .u32 (vI .u32) up :: .own v1 1 (ints .u32 Lp) 43 :: .box b9 [.val (.map (some bk)), .val (.map (some bu))] 28 :: .box b6 [.val (.map none), .val (.map none)] 28 :: h⟩) ⟨rfl, (by repeat (first | exact LeT.nil | refine LeT.cons rfl ?_ | refine LeT.consw rfl (by (repeat (first | exact Wk.refl _ | exact Wk.nilr _ | exact Wk.nilm | apply Wk.aggc | apply Wk.tupc | exact Wk.aggn | exact Wk.tupn)); first | done | fail) ?_)), (by repeat (first | exact LeH.refl _ | exact LeH.nil _ | refine LeH.cons (by (fail_if_success (apply tkG)); (repeat (first | exact Tk.here | apply Tk.there)); first | done | fail) ?_ | refine LeH.boxw (by (fail_if_success (apply tkG)); (repeat (first | exact Tk.here | apply Tk.there)); first | done | fail) (by (repeat (first | exact Wk.refl _ | exact Wk.nilr _ | exact Wk.nilm | apply Wk.aggc | apply Wk.tupc | exact Wk.aggn | exact Wk.tupn)); first | done | fail) ?_ | refine LeH.skip ?_))⟩ ?_
    refine S.call ?_
    refine (tk v v1 bk bu _).mono ?_
    rintro r h' ⟨w, rfl, hh⟩
    subst hh
    refine RL.frzg (v := w) (by (fail_if_success (apply tkG)); (repeat (first | exact Tk.here | apply Tk.there)); first | done | fail) (by repeat' (first | apply FrzT.cons | exact FrzT.rest _ | exact Frz.hit | apply Frz.aggc | apply Frz.tupc | exact Frz.aggn | exact Frz.tupn | exact Frz.keep _)) (by first | exact hfz | (repeat' (first | exact hfz | apply FrzG.keep | apply FrzG.box | exact Frz.hit | apply Frz.aggc | exact Frz.aggn | exact Frz.keep _))) ?_
    (repeat' (first | (refine iS ?_; refine iMu ?_; refine S.mapU ?_) | refine svz ⟨fun b hq => ?_⟩ | refine sv1 ?_ | refine svs ⟨?_⟩ | refine svu ⟨fun u => ?_⟩ | (refine svg (fun hg => ?_) (fun hg => ?_) <;> try (exfalso; first | omega | contradiction)) | (refine svc (fun hc => ?_) (fun hc => ?_) <;> try (exfalso; first | omega | contradiction)) | refine sv2 ?_ | refine svh (fun hb => ?_) (fun hb => ?_) | refine svb (fun b => ?_) | refine sva ?_ | refine sv3 ?_))
    refine Step.le (s' := ⟨38, [(35, .val (.int .u32 (p))), (34, .val (.int .u32 (id))), (33, .agg [.val (.map (some bk)), .val (.map (some bu))]), (9, .val (.pointer (some ⟨b9, 0, none⟩))), (6, .val (.pointer (some ⟨b6, 0, none⟩))), (1, .val (.int .u32 (id))), (2, .val (.int .u32 (p))), (7, .val (.int .i64 (0)))], mpV bk .u32 idA (k1.map (entV p v1)) :: mpV bu .u32 (vI .u32) up :: .own v1 1 (ints .u32 Lp) 43 :: .box b9 [.val (.map (some bk)), .val (.map (some bu))] 28 :: .box b6 [.val (.map none), .val (.map none)] 28 :: h⟩) ⟨rfl, (by repeat (first | exact LeT.nil | refine LeT.cons rfl ?_ | refine LeT.consw rfl (by (repeat (first | exact Wk.refl _ | exact Wk.nilr _ | exact Wk.nilm | apply Wk.aggc | apply Wk.tupc | exact Wk.aggn | exact Wk.tupn)); first | done | fail) ?_)), (by repeat (first | exact LeH.refl _ | exact LeH.nil _ | refine LeH.cons (by (fail_if_success (apply tkG)); (repeat (first | exact Tk.here | apply Tk.there)); first | done | fail) ?_ | refine LeH.boxw (by (fail_if_success (apply tkG)); (repeat (first | exact Tk.here | apply Tk.there)); first | done | fail) (by (repeat (first | exact Wk.refl _ | exact Wk.nilr _ | exact Wk.nilm | apply Wk.aggc | apply Wk.tupc | exact Wk.aggn | exact Wk.tupn)); first | done | fail) ?_ | refine LeH.skip ?_))⟩ ?_
    refine S.call ?_
    refine (pu v1 bk bu _).mono ?_
    rintro r h' ⟨w2, rfl, hh⟩
    subst hh
    generalize hLL : Lp ++ [id] = LL at *; refine RL.frzg (v := w2) (by (fail_if_success (apply tkG)); (repeat (first | exact Tk.here | apply Tk.there)); first | done | fail) (by repeat' (first | apply FrzT.cons | exact FrzT.rest _ | exact Frz.hit | apply Frz.aggc | apply Frz.tupc | exact Frz.aggn | exact Frz.tupn | exact Frz.keep _)) (by first | exact frz_kids | (repeat' (first | exact frz_kids | apply FrzG.keep | apply FrzG.box | exact Frz.hit | apply Frz.aggc | exact Frz.aggn | exact Frz.keep _))) ?_; generalize putF k1 p LL = k2 at *; generalize putF up id p = u2 at *; refine RL.frzm (b := bk) (by (fail_if_success (apply tkG)); (repeat (first | exact Tk.here | apply Tk.there)); first | done | fail) (by repeat' (first | apply FzT.cons | exact FzT.rest _ | exact Fz.hit | apply Fz.aggc | apply Fz.tupc | exact Fz.aggn | exact Fz.tupn | exact Fz.keep _)) (by repeat' (first | apply FzH.box | apply FzH.keep | exact FzH.rest _ | exact Fz.hit | apply Fz.aggc | apply Fz.tupc | exact Fz.aggn | exact Fz.tupn | exact Fz.keep _)) ?_; refine RL.frzm (b := bu) (by (fail_if_success (apply tkG)); (repeat (first | exact Tk.here | apply Tk.there)); first | done | fail) (by repeat' (first | apply FzT.cons | exact FzT.rest _ | exact Fz.hit | apply Fz.aggc | apply Fz.tupc | exact Fz.aggn | exact Fz.tupn | exact Fz.keep _)) (by repeat' (first | apply FzH.box | apply FzH.keep | exact FzH.rest _ | exact Fz.hit | apply Fz.aggc | apply Fz.tupc | exact Fz.aggn | exact Fz.tupn | exact Fz.keep _)) ?_; (repeat' (first | (refine iS ?_; refine iMu ?_; refine S.mapU ?_) | refine svz ⟨fun b hq => ?_⟩ | refine sv1 ?_ | refine svs ⟨?_⟩ | refine svu ⟨fun u => ?_⟩ | (refine svg (fun hg => ?_) (fun hg => ?_) <;> try (exfalso; first | omega | contradiction)) | (refine svc (fun hc => ?_) (fun hc => ?_) <;> try (exfalso; first | omega | contradiction)) | refine sv2 ?_ | refine svh (fun hb => ?_) (fun hb => ?_) | refine svb (fun b => ?_) | refine sva ?_ | refine sv3 ?_)); exact fin_r (h' := h) ⟨rfl, rfl⟩
end Go.Proofs.Ytkpbbiknhhmfiaa
