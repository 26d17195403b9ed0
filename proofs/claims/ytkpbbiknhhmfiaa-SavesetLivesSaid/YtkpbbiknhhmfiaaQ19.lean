/- SavesetNone. No condition. -/
import Derived.Test.YtkpbbiknhhmfiaaQ17
import Derived.Test.YtkpbbiknhhmfiaaVR4
namespace Go.Proofs.Ytkpbbiknhhmfiaa
open Go Go.VM
attribute [local irreducible] PurV Pur Step RL W D ACalls Then InBlock Fini
set_option linter.unusedVariables false
set_option linter.unusedSimpArgs false
set_option maxHeartbeats 20000000
theorem ptL_box {l : List WN} (hl : l.length ≤ 100) {n : Nat} (hn : n ≤ l.length) : ∃ b, lkF (ptL l) (idF n) = some b := by
  by_cases h : n = 0
  · subst h
    exact ⟨_, lkF_nodup (ptL_nodup l hl) (List.mem_cons_self ..)⟩
  · obtain ⟨w, hw⟩ : ∃ w, l[n - 1]? = some w := ⟨_, List.getElem?_eq_getElem (by omega)⟩
    have := ptL_at hw
    rw [show n - 1 + 1 = n by omega] at this
    exact ⟨_, lkF_nodup (ptL_nodup l hl) this⟩
theorem ptL_bd {l : List WN} (hok : ∀ w ∈ l, w.Ok) {x : Int} {b : BX} (h : lkF (ptL l) x = some b) : (-40000 ≤ b.x ∧ b.x ≤ 40000) ∧ -40000 ≤ b.y ∧ b.y ≤ 40000 := by
  rcases ptL_mem (lkF_some h) with e | ⟨j, w, h1, e⟩
  · injection e with _ e; subst e; decide
  · injection e with _ e
    subst e
    have := hok w (List.mem_of_getElem? h1)
    have h2 := this.x
    have h3 := this.y
    dsimp only
    omega
theorem wfP {N : Nat} {up : UP} {pt : PT} (w : Wf N up) (hN : N ≤ 100) (hb : ∀ n, n ≤ N → ∃ b, lkF pt (idF n) = some b) {id p : Int} (h : lkF up id = some p) :
    id ≠ 1 ∧ Pth up p (rP up p) ∧ (rP up p).length ≤ 900 ∧ ∀ x ∈ id :: p :: rP up p, ∃ b, lkF pt x = some b := by
  obtain ⟨n, h1, h2, rfl⟩ := w.only id p h
  obtain ⟨m, h3, h4⟩ := w.tot n h1 h2
  rw [h] at h4
  injection h4 with h4
  subst h4
  obtain ⟨L, q1, q2, q3⟩ := w.pth (by omega) m (by omega)
  rw [rP_eq q1]
  refine ⟨idF_ne1 h1 (by omega), q1, by omega, fun x hx => ?_⟩
  rcases List.mem_cons.1 hx with rfl | hx
  · exact hb n h2
  rcases List.mem_cons.1 hx with rfl | hx
  · exact hb m (by omega)
  · obtain ⟨q, q4, rfl⟩ := q3 x hx
    exact hb q (by omega)
theorem livesL_nil {up : UP} {saved : List Int} {id : Int} {L : List Int} (h : Pth up id L) : livesL [] saved (id :: L) = true := by
  induction h with
  | root => exact livesL_root _ _ _
  | @up id p R h1 h2 r ih =>
    by_cases h4 : id ∈ saved
    · exact livesL_saved (by simp) h4
    · rw [livesL_up h1 (by simp) h4]; exact ih
theorem res_none {up : UP} {t : PT} {own saved : List Int} {R : Int → List Int} {l : List Int} (h : ∀ id ∈ l, mvS up t own saved R id = none) : resF up t own saved R l = [] := List.filterMap_eq_nil_iff.2 h
theorem res_ownless {N : Nat} {up : UP} {t : PT} {saved : List Int} (w : Wf N up) (hN : N ≤ 100) (hb : ∀ n, n ≤ N → ∃ b, lkF t (idF n) = some b) (l : List Int) : resF up t [] saved (rP up) l = [] := res_none fun id _ => by
  unfold mvS
  cases e : lkF up id with
  | none => rfl
  | some p => exact if_pos (.inr (livesL_nil (wfP w hN hb e).2.1))
theorem drop_all (sv : List Int) : dropS (stS sv) 0 sv = [] := by
  unfold dropS stS
  split
  · rfl
  · have : leftF (fun a b => decide (a = 0) || decide (b ∈ sv)) 1 sv = [] := List.filter_eq_nil_iff.2 fun a ha => by simp [ha]
    simp [copF, this]
theorem wn_fit1 {N : Nat} {x : AV} (h : FitE N (.fld 1 (.int .u8) (.fld 1 (.int .i8) (.fld 1 (.int .i8) (.fld 1 (.bool) (.fld 1 (.bool) (.nil)))))) x) : ∃ w : WN, x = w.enc ∧ w.Ok := by
  obtain ⟨_, rfl, _, _, rfl, _, ⟨a, rfl, ha⟩, _, _, rfl, _, ⟨b, rfl, hb⟩, _, _, rfl, _, ⟨c, rfl, hc⟩, _, _, rfl, _, ⟨d, rfl⟩, _, _, rfl, _, ⟨e, rfl⟩, rfl⟩ := h
  exact ⟨⟨a, b, c, d, e⟩, rfl, wf_u8 ha, wf_i8 hb, wf_i8 hc⟩
theorem wn_fit {N : Nat} {x : AV} (h : FitE N (.sl 5 (.fld 1 (.int .u8) (.fld 1 (.int .i8) (.fld 1 (.int .i8) (.fld 1 (.bool) (.fld 1 (.bool) (.nil))))))) x) : ∃ l : List WN, x = .ro 5 (l.map WN.enc) ∧ l.length ≤ N ∧ ∀ w ∈ l, w.Ok := fit_sl h (fun y hy => wn_fit1 hy)
set_option maxRecDepth 100000 in
theorem none_c (l : List WN) (g : List Int) (hok : ∀ w ∈ l, w.Ok) (hk : ∀ n ∈ g, 0 ≤ n ∧ n ≤ 255) :
    ACalls Try.prog 6 [.ro 5 (l.map WN.enc), .ro 1 (ints .u8 g)] [] (fun r h' => r = .val (.bool (true))) := by
  by_cases hl : l.length ≤ 12
  rotate_left
  · refine ACalls.intro Try.func6 rfl Try.ntmps6 Try.results6 (Nat.le_of_ble_eq_true rfl) ?_
    refine W.len 0 rfl (fun hll => ?_); simp only [ints, splice, List.length_map, List.length_append, List.length_cons, List.length_nil, List.length_take, List.length_drop, List.length_set, List.length_replicate] at hll
    (repeat' (first | (refine iS ?_; refine iMu ?_; refine S.mapU ?_) | refine svz ⟨fun b hq => ?_⟩ | refine sv1 ?_ | refine svs ⟨?_⟩ | refine svu ⟨fun u => ?_⟩ | (refine svg (fun hg => ?_) (fun hg => ?_) <;> try (exfalso; first | omega | contradiction)) | (refine svc (fun hc => ?_) (fun hc => ?_) <;> try (exfalso; first | omega | contradiction)) | refine sv2 ?_ | refine svh (fun hb => ?_) (fun hb => ?_) | refine svb (fun b => ?_) | refine sva ?_ | refine sv3 ?_))
    refine S.call ?_; refine (awake_c _).mono ?_; rintro r h' ⟨rfl, hh⟩; subst hh
    (repeat' (first | (refine iS ?_; refine iMu ?_; refine S.mapU ?_) | refine svz ⟨fun b hq => ?_⟩ | refine sv1 ?_ | refine svs ⟨?_⟩ | refine svu ⟨fun u => ?_⟩ | (refine svg (fun hg => ?_) (fun hg => ?_) <;> try (exfalso; first | omega | contradiction)) | (refine svc (fun hc => ?_) (fun hc => ?_) <;> try (exfalso; first | omega | contradiction)) | refine sv2 ?_ | refine svh (fun hb => ?_) (fun hb => ?_) | refine svb (fun b => ?_) | refine sva ?_ | refine sv3 ?_))
    exact fin_r (h' := _) rfl
  by_cases hg : g.length ≤ 20
  rotate_left
  · refine ACalls.intro Try.func6 rfl Try.ntmps6 Try.results6 (Nat.le_of_ble_eq_true rfl) ?_
    refine W.len 0 rfl (fun hll => ?_); simp only [ints, splice, List.length_map, List.length_append, List.length_cons, List.length_nil, List.length_take, List.length_drop, List.length_set, List.length_replicate] at hll
    refine W.len 1 rfl (fun hlg => ?_); simp only [ints, splice, List.length_map, List.length_append, List.length_cons, List.length_nil, List.length_take, List.length_drop, List.length_set, List.length_replicate] at hlg
    (repeat' (first | (refine iS ?_; refine iMu ?_; refine S.mapU ?_) | refine svz ⟨fun b hq => ?_⟩ | refine sv1 ?_ | refine svs ⟨?_⟩ | refine svu ⟨fun u => ?_⟩ | (refine svg (fun hg => ?_) (fun hg => ?_) <;> try (exfalso; first | omega | contradiction)) | (refine svc (fun hc => ?_) (fun hc => ?_) <;> try (exfalso; first | omega | contradiction)) | refine sv2 ?_ | refine svh (fun hb => ?_) (fun hb => ?_) | refine svb (fun b => ?_) | refine sva ?_ | refine sv3 ?_))
    refine S.call ?_; refine (awake_c _).mono ?_; rintro r h' ⟨rfl, hh⟩; subst hh
    (repeat' (first | (refine iS ?_; refine iMu ?_; refine S.mapU ?_) | refine svz ⟨fun b hq => ?_⟩ | refine sv1 ?_ | refine svs ⟨?_⟩ | refine svu ⟨fun u => ?_⟩ | (refine svg (fun hg => ?_) (fun hg => ?_) <;> try (exfalso; first | omega | contradiction)) | (refine svc (fun hc => ?_) (fun hc => ?_) <;> try (exfalso; first | omega | contradiction)) | refine sv2 ?_ | refine svh (fun hb => ?_) (fun hb => ?_) | refine svb (fun b => ?_) | refine sva ?_ | refine sv3 ?_))
    exact fin_r (h' := _) rfl
  have mc := fun h => made_c l h hl hok
  have oc := fun h => own_c l.length g h (by omega) (by omega) hk
  have wf := upL_wf l (by omega)
  have hbx := fun n (hn : n ≤ l.length) => ptL_box (l := l) (by omega) hn
  have hsl := svL_len l
  have r1 := fun k h => rescue_c k (upL l) (ptL l) (stS (svL l)) 1 [] (rP (upL l)) h (wf.n0 (by omega)) (by rw [ofS_stS]; omega) (fun id hid p hp => wfP wf (by omega) hbx hp) (fun w b hb => ptL_bd hok hb)
  have r2 := fun k h => rescue_c k (upL l) (ptL l) [] 1 (ownF l.length g) (rP (upL l)) h (wf.n0 (by omega)) (by decide) (fun id hid p hp => wfP wf (by omega) hbx hp) (fun w b hb => ptL_bd hok hb)
  have r3 := fun h => rescue_c [] [] (ptL l) (stS (svL l)) 1 (ownF l.length g) (fun _ => []) h rfl (by rw [ofS_stS]; omega) (fun id hid p hp => by cases hp) (fun w b hb => ptL_bd hok hb)
  have dc := fun h => drop_c (stS (svL l)) 0 (svL l) h (stS_nodup _) (stS_lens (by omega)) (by have := stS_len (svL l); omega)
  have fc := fun h => ofs_c (stS (svL l)) 1 h (by rw [ofS_stS]; omega)
  have n1 := fun h => new_c h
  rw [drop_all] at dc
  simp only [res_ownless wf (by omega) hbx] at r1
  rw [ofS_stS] at fc
  have e3 : resF [] (ptL l) (ownF l.length g) (ofS (stS (svL l)) 1) (fun _ => []) (ofS (stS (svL l)) 1) = [] := res_none fun _ _ => rfl
  simp only [e3] at r3
  have e2 : ofS [] 1 = [] := rfl
  simp only [e2, show resF (upL l) (ptL l) (ownF l.length g) [] (rP (upL l)) [] = [] from rfl] at r2
  unfold encT encP encS at *
  have r1 := fun k h => (r1 k h).args (vs := [.agg [mapV .u32 vIds k, mapV .u32 (vI .u32) (upL l)], .agg [mapV .u32 vBox (ptL l)], .agg [mapV .i64 vIds (stS (svL l))], .val (.int .i64 (1)), .val (.slice none 0 0)]) (by (repeat (first | exact Wk.refl _ | exact Wk.nilr _ | exact Wk.nilm | apply Wk.aggc | apply Wk.tupc | exact Wk.aggn | exact Wk.tupn)); first | done | fail)
  have r4 := r2
  have r2 := fun k h => (r2 k h).args (vs := [.agg [mapV .u32 vIds k, mapV .u32 (vI .u32) (upL l)], .agg [mapV .u32 vBox (ptL l)], .agg [.val (.map none)], .val (.int .i64 (1)), .ro 1 (ints .u32 (ownF l.length g))]) (by (repeat (first | exact Wk.refl _ | exact Wk.nilr _ | exact Wk.nilm | apply Wk.aggc | apply Wk.tupc | exact Wk.aggn | exact Wk.tupn)); first | done | fail)
  generalize stS (svL l) = st at *
  generalize svL l = sv at *
  generalize ownF l.length g = ow at *
  refine ACalls.intro Try.func6 rfl Try.ntmps6 Try.results6 (Nat.le_of_ble_eq_true rfl) ?_
  (repeat' (first | (refine iS ?_; refine iMu ?_; refine S.mapU ?_) | refine svz ⟨fun b hq => ?_⟩ | refine sv1 ?_ | refine svs ⟨?_⟩ | refine svu ⟨fun u => ?_⟩ | (refine svg (fun hg => ?_) (fun hg => ?_) <;> try (exfalso; first | omega | contradiction)) | (refine svc (fun hc => ?_) (fun hc => ?_) <;> try (exfalso; first | omega | contradiction)) | refine sv2 ?_ | refine svh (fun hb => ?_) (fun hb => ?_) | refine svb (fun b => ?_) | refine sva ?_ | refine sv3 ?_))
  refine S.call ?_
  refine (mc _).mono ?_
  rintro r h' ⟨k, hki, rfl, hh⟩
  subst hh
  have r1 := r1 k
  have r2 := r2 k
  have r4 := r4 k
  generalize upL l = up at *
  generalize ptL l = pt at *
  (repeat' (first | (refine iS ?_; refine iMu ?_; refine S.mapU ?_) | refine svz ⟨fun b hq => ?_⟩ | refine sv1 ?_ | refine svs ⟨?_⟩ | refine svu ⟨fun u => ?_⟩ | (refine svg (fun hg => ?_) (fun hg => ?_) <;> try (exfalso; first | omega | contradiction)) | (refine svc (fun hc => ?_) (fun hc => ?_) <;> try (exfalso; first | omega | contradiction)) | refine sv2 ?_ | refine svh (fun hb => ?_) (fun hb => ?_) | refine svb (fun b => ?_) | refine sva ?_ | refine sv3 ?_))
  refine S.call ?_; refine (oc _).mono ?_; rintro r h' ⟨rfl, hh⟩; subst hh
  (repeat' (first | (refine iS ?_; refine iMu ?_; refine S.mapU ?_) | refine svz ⟨fun b hq => ?_⟩ | refine sv1 ?_ | refine svs ⟨?_⟩ | refine svu ⟨fun u => ?_⟩ | (refine svg (fun hg => ?_) (fun hg => ?_) <;> try (exfalso; first | omega | contradiction)) | (refine svc (fun hc => ?_) (fun hc => ?_) <;> try (exfalso; first | omega | contradiction)) | refine sv2 ?_ | refine svh (fun hb => ?_) (fun hb => ?_) | refine svb (fun b => ?_) | refine sva ?_ | refine sv3 ?_))
  refine R2.C (r1 _) ?_
  (repeat' (first | (refine iS ?_; refine iMu ?_; refine S.mapU ?_) | refine svz ⟨fun b hq => ?_⟩ | refine sv1 ?_ | refine svs ⟨?_⟩ | refine svu ⟨fun u => ?_⟩ | (refine svg (fun hg => ?_) (fun hg => ?_) <;> try (exfalso; first | omega | contradiction)) | (refine svc (fun hc => ?_) (fun hc => ?_) <;> try (exfalso; first | omega | contradiction)) | refine sv2 ?_ | refine svh (fun hb => ?_) (fun hb => ?_) | refine svb (fun b => ?_) | refine sva ?_ | refine sv3 ?_))
  refine R2.C (r2 _) ?_
  (repeat' (first | (refine iS ?_; refine iMu ?_; refine S.mapU ?_) | refine svz ⟨fun b hq => ?_⟩ | refine sv1 ?_ | refine svs ⟨?_⟩ | refine svu ⟨fun u => ?_⟩ | (refine svg (fun hg => ?_) (fun hg => ?_) <;> try (exfalso; first | omega | contradiction)) | (refine svc (fun hc => ?_) (fun hc => ?_) <;> try (exfalso; first | omega | contradiction)) | refine sv2 ?_ | refine svh (fun hb => ?_) (fun hb => ?_) | refine svb (fun b => ?_) | refine sva ?_ | refine sv3 ?_))
  refine R2.C (n1 _) ?_
  (repeat' (first | (refine iS ?_; refine iMu ?_; refine S.mapU ?_) | refine svz ⟨fun b hq => ?_⟩ | refine sv1 ?_ | refine svs ⟨?_⟩ | refine svu ⟨fun u => ?_⟩ | (refine svg (fun hg => ?_) (fun hg => ?_) <;> try (exfalso; first | omega | contradiction)) | (refine svc (fun hc => ?_) (fun hc => ?_) <;> try (exfalso; first | omega | contradiction)) | refine sv2 ?_ | refine svh (fun hb => ?_) (fun hb => ?_) | refine svb (fun b => ?_) | refine sva ?_ | refine sv3 ?_))
  refine R2.C (r3 _) ?_
  (repeat' (first | (refine iS ?_; refine iMu ?_; refine S.mapU ?_) | refine svz ⟨fun b hq => ?_⟩ | refine sv1 ?_ | refine svs ⟨?_⟩ | refine svu ⟨fun u => ?_⟩ | (refine svg (fun hg => ?_) (fun hg => ?_) <;> try (exfalso; first | omega | contradiction)) | (refine svc (fun hc => ?_) (fun hc => ?_) <;> try (exfalso; first | omega | contradiction)) | refine sv2 ?_ | refine svh (fun hb => ?_) (fun hb => ?_) | refine svb (fun b => ?_) | refine sva ?_ | refine sv3 ?_))
  refine R2.C (dc _) ?_
  (repeat' (first | (refine iS ?_; refine iMu ?_; refine S.mapU ?_) | refine svz ⟨fun b hq => ?_⟩ | refine sv1 ?_ | refine svs ⟨?_⟩ | refine svu ⟨fun u => ?_⟩ | (refine svg (fun hg => ?_) (fun hg => ?_) <;> try (exfalso; first | omega | contradiction)) | (refine svc (fun hc => ?_) (fun hc => ?_) <;> try (exfalso; first | omega | contradiction)) | refine sv2 ?_ | refine svh (fun hb => ?_) (fun hb => ?_) | refine svb (fun b => ?_) | refine sva ?_ | refine sv3 ?_))
  refine R2.C (r4 _) ?_
  (repeat' (first | (refine iS ?_; refine iMu ?_; refine S.mapU ?_) | refine svz ⟨fun b hq => ?_⟩ | refine sv1 ?_ | refine svs ⟨?_⟩ | refine svu ⟨fun u => ?_⟩ | (refine svg (fun hg => ?_) (fun hg => ?_) <;> try (exfalso; first | omega | contradiction)) | (refine svc (fun hc => ?_) (fun hc => ?_) <;> try (exfalso; first | omega | contradiction)) | refine sv2 ?_ | refine svh (fun hb => ?_) (fun hb => ?_) | refine svb (fun b => ?_) | refine sva ?_ | refine sv3 ?_))
  refine R2.C (fc _) ?_
  (repeat' (first | (refine iS ?_; refine iMu ?_; refine S.mapU ?_) | refine svz ⟨fun b hq => ?_⟩ | refine sv1 ?_ | refine svs ⟨?_⟩ | refine svu ⟨fun u => ?_⟩ | (refine svg (fun hg => ?_) (fun hg => ?_) <;> try (exfalso; first | omega | contradiction)) | (refine svc (fun hc => ?_) (fun hc => ?_) <;> try (exfalso; first | omega | contradiction)) | refine sv2 ?_ | refine svh (fun hb => ?_) (fun hb => ?_) | refine svb (fun b => ?_) | refine sva ?_ | refine sv3 ?_))
  refine R2.C (awake_c _) ?_
  (repeat' (first | (refine iS ?_; refine iMu ?_; refine S.mapU ?_) | refine svz ⟨fun b hq => ?_⟩ | refine sv1 ?_ | refine svs ⟨?_⟩ | refine svu ⟨fun u => ?_⟩ | (refine svg (fun hg => ?_) (fun hg => ?_) <;> try (exfalso; first | omega | contradiction)) | (refine svc (fun hc => ?_) (fun hc => ?_) <;> try (exfalso; first | omega | contradiction)) | refine sv2 ?_ | refine svh (fun hb => ?_) (fun hb => ?_) | refine svb (fun b => ?_) | refine sva ?_ | refine sv3 ?_))
  exact fin_r (h' := _) rfl
theorem none_row : ∀ l, FitAll maxLen [.sl 5 (.fld 1 (.int .u8) (.fld 1 (.int .i8) (.fld 1 (.int .i8) (.fld 1 (.bool) (.fld 1 (.bool) (.nil)))))), .sl 1 (.int .u8)] l → ACalls Try.prog 6 l [] (fun r h' => r = .val (.bool true)) := by
  rintro l ⟨x, _, rfl, hx, y, _, rfl, hy, rfl⟩
  obtain ⟨ws, rfl, _, hw⟩ := wn_fit hx
  obtain ⟨g, rfl, _, hg⟩ := fit_ints hy
  exact none_c ws g hw fun n hn => wf_u8 (hg n hn)
end Go.Proofs.Ytkpbbiknhhmfiaa
