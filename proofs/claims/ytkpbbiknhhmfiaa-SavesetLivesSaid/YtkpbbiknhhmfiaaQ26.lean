/- SavesetLives. No condition. -/
import Derived.Test.YtkpbbiknhhmfiaaQ25
namespace Go.Proofs.Ytkpbbiknhhmfiaa
open Go Go.VM
attribute [local irreducible] PurV Pur Step RL W D ACalls Then InBlock Fini
set_option linter.unusedVariables false
set_option linter.unusedSimpArgs false
set_option maxHeartbeats 20000000
instance : TEqS Try.prog 80 [true, true] := ⟨by kernel_rfl, by kernel_rfl, by kernel_rfl, by kernel_rfl⟩
theorem lv_made (l : List WN) (g : List Int) (hl : l.length ≤ 12) (hok : ∀ w ∈ l, w.Ok) : LV l.length (upL l) (ptL l) (ownF l.length g) (svL l) := by
  have wf := upL_wf l (by omega)
  refine ⟨wf, hl, fun n hn => ptL_box (by omega) hn, fun n h0 hn => ?_, fun w b h => ?_, by rw [ptL_len]; omega, by unfold ptL; simp, fun h => ?_, fun id h hm => ?_, fun id h => ?_⟩
  · obtain ⟨w, hw⟩ : ∃ w, l[n - 1]? = some w := ⟨_, List.getElem?_eq_getElem (by omega)⟩
    have := ptL_at hw
    rw [show n - 1 + 1 = n by omega] at this
    exact ⟨_, _, _, lkF_nodup (ptL_nodup l (by omega)) this⟩
  · rcases ptL_mem (lkF_some h) with e | ⟨j, q, h1, e⟩
    · injection e with _ e; subst e; decide
    · injection e with _ e
      subst e
      have := hok q (List.mem_of_getElem? h1)
      have h2 := this.x
      have h3 := this.y
      dsimp only
      omega
  · obtain ⟨i, h1, h2, h3, e⟩ := ownF_mem h
    exact idF_ne1 h1 (by omega) e.symm
  · obtain ⟨j, w, hj, hws, hpar, e⟩ := svL_mem h
    have := lt_of_some hj
    rw [e] at hm
    obtain ⟨i, h1, h2, h3, e2⟩ := ownF_mem hm
    have := idF_inj (by omega) (by omega) e2
    omega
  · obtain ⟨j, w, hj, hws, hpar, e⟩ := svL_mem h
    rw [e]
    exact ⟨_, lkF_nodup wf.nd (upL_at hj)⟩
set_option maxRecDepth 100000 in
theorem slives_c (l : List WN) (g : List Int) (hok : ∀ w ∈ l, w.Ok) (hk : ∀ n ∈ g, 0 ≤ n ∧ n ≤ 255) :
    ACalls Try.prog 7 [.ro 5 (l.map WN.enc), .ro 1 (ints .u8 g)] [] (fun r h' => r = .val (.bool (true))) := by
  by_cases hl : l.length ≤ 12
  rotate_left
  · refine ACalls.intro Try.func7 rfl Try.ntmps7 Try.results7 (Nat.le_of_ble_eq_true rfl) ?_
    refine W.len 0 rfl (fun hll => ?_); simp only [ints, splice, List.length_map, List.length_append, List.length_cons, List.length_nil, List.length_take, List.length_drop, List.length_set, List.length_replicate] at hll
    (repeat' (first | (refine iS ?_; refine iMu ?_; refine S.mapU ?_) | refine svz ⟨fun b hq => ?_⟩ | refine sv1 ?_ | refine svs ⟨?_⟩ | refine svu ⟨fun u => ?_⟩ | (refine svg (fun hg => ?_) (fun hg => ?_) <;> try (exfalso; first | omega | contradiction)) | (refine svc (fun hc => ?_) (fun hc => ?_) <;> try (exfalso; first | omega | contradiction)) | refine sv2 ?_ | refine svh (fun hb => ?_) (fun hb => ?_) | refine svb (fun b => ?_) | refine sva ?_ | refine sv3 ?_))
    refine S.call ?_; refine (awake_c _).mono ?_; rintro r h' ⟨rfl, hh⟩; subst hh
    (repeat' (first | (refine iS ?_; refine iMu ?_; refine S.mapU ?_) | refine svz ⟨fun b hq => ?_⟩ | refine sv1 ?_ | refine svs ⟨?_⟩ | refine svu ⟨fun u => ?_⟩ | (refine svg (fun hg => ?_) (fun hg => ?_) <;> try (exfalso; first | omega | contradiction)) | (refine svc (fun hc => ?_) (fun hc => ?_) <;> try (exfalso; first | omega | contradiction)) | refine sv2 ?_ | refine svh (fun hb => ?_) (fun hb => ?_) | refine svb (fun b => ?_) | refine sva ?_ | refine sv3 ?_))
    exact fin_r (h' := _) rfl
  by_cases hg : g.length ≤ 20
  rotate_left
  · refine ACalls.intro Try.func7 rfl Try.ntmps7 Try.results7 (Nat.le_of_ble_eq_true rfl) ?_
    refine W.len 0 rfl (fun hll => ?_); simp only [ints, splice, List.length_map, List.length_append, List.length_cons, List.length_nil, List.length_take, List.length_drop, List.length_set, List.length_replicate] at hll
    refine W.len 1 rfl (fun hlg => ?_); simp only [ints, splice, List.length_map, List.length_append, List.length_cons, List.length_nil, List.length_take, List.length_drop, List.length_set, List.length_replicate] at hlg
    (repeat' (first | (refine iS ?_; refine iMu ?_; refine S.mapU ?_) | refine svz ⟨fun b hq => ?_⟩ | refine sv1 ?_ | refine svs ⟨?_⟩ | refine svu ⟨fun u => ?_⟩ | (refine svg (fun hg => ?_) (fun hg => ?_) <;> try (exfalso; first | omega | contradiction)) | (refine svc (fun hc => ?_) (fun hc => ?_) <;> try (exfalso; first | omega | contradiction)) | refine sv2 ?_ | refine svh (fun hb => ?_) (fun hb => ?_) | refine svb (fun b => ?_) | refine sva ?_ | refine sv3 ?_))
    refine S.call ?_; refine (awake_c _).mono ?_; rintro r h' ⟨rfl, hh⟩; subst hh
    (repeat' (first | (refine iS ?_; refine iMu ?_; refine S.mapU ?_) | refine svz ⟨fun b hq => ?_⟩ | refine sv1 ?_ | refine svs ⟨?_⟩ | refine svu ⟨fun u => ?_⟩ | (refine svg (fun hg => ?_) (fun hg => ?_) <;> try (exfalso; first | omega | contradiction)) | (refine svc (fun hc => ?_) (fun hc => ?_) <;> try (exfalso; first | omega | contradiction)) | refine sv2 ?_ | refine svh (fun hb => ?_) (fun hb => ?_) | refine svb (fun b => ?_) | refine sva ?_ | refine sv3 ?_))
    exact fin_r (h' := _) rfl
  have mc := fun h => made_c l h hl hok
  have oc := fun h => own_c l.length g h (by omega) (by omega) hk
  have hsl := svL_len l
  have lv := lv_made l g hl hok
  have wf := lv.wf
  have rc := fun k h => rescue_c k (upL l) (ptL l) (stS (svL l)) 1 (ownF l.length g) (rP (upL l)) h (wf.n0 (by omega)) (by rw [ofS_stS]; omega) (fun id hid p hp => wfP wf (by omega) lv.box hp) (fun w b hb => ptL_bd hok hb)
  rw [ofS_stS] at rc
  have hml : (resF (upL l) (ptL l) (ownF l.length g) (svL l) (rP (upL l)) (svL l)).length ≤ (svL l).length := List.length_filterMap_le _ _
  clear wf
  unfold encT encP encS at *
  generalize stS (svL l) = st at *
  generalize svL l = sv at *
  generalize ownF l.length g = ow at *
  refine ACalls.intro Try.func7 rfl Try.ntmps7 Try.results7 (Nat.le_of_ble_eq_true rfl) ?_
  (repeat' (first | (refine iS ?_; refine iMu ?_; refine S.mapU ?_) | refine svz ⟨fun b hq => ?_⟩ | refine sv1 ?_ | refine svs ⟨?_⟩ | refine svu ⟨fun u => ?_⟩ | (refine svg (fun hg => ?_) (fun hg => ?_) <;> try (exfalso; first | omega | contradiction)) | (refine svc (fun hc => ?_) (fun hc => ?_) <;> try (exfalso; first | omega | contradiction)) | refine sv2 ?_ | refine svh (fun hb => ?_) (fun hb => ?_) | refine svb (fun b => ?_) | refine sva ?_ | refine sv3 ?_))
  refine S.call ?_
  refine (mc _).mono ?_
  rintro r h' ⟨k, hki, rfl, hh⟩
  subst hh
  have rc := rc k
  generalize upL l = up at *
  generalize ptL l = pt at *
  (repeat' (first | (refine iS ?_; refine iMu ?_; refine S.mapU ?_) | refine svz ⟨fun b hq => ?_⟩ | refine sv1 ?_ | refine svs ⟨?_⟩ | refine svu ⟨fun u => ?_⟩ | (refine svg (fun hg => ?_) (fun hg => ?_) <;> try (exfalso; first | omega | contradiction)) | (refine svc (fun hc => ?_) (fun hc => ?_) <;> try (exfalso; first | omega | contradiction)) | refine sv2 ?_ | refine svh (fun hb => ?_) (fun hb => ?_) | refine svb (fun b => ?_) | refine sva ?_ | refine sv3 ?_))
  refine S.call ?_; refine (oc _).mono ?_; rintro r h' ⟨rfl, hh⟩; subst hh
  (repeat' (first | (refine iS ?_; refine iMu ?_; refine S.mapU ?_) | refine svz ⟨fun b hq => ?_⟩ | refine sv1 ?_ | refine svs ⟨?_⟩ | refine svu ⟨fun u => ?_⟩ | (refine svg (fun hg => ?_) (fun hg => ?_) <;> try (exfalso; first | omega | contradiction)) | (refine svc (fun hc => ?_) (fun hc => ?_) <;> try (exfalso; first | omega | contradiction)) | refine sv2 ?_ | refine svh (fun hb => ?_) (fun hb => ?_) | refine svb (fun b => ?_) | refine sva ?_ | refine sv3 ?_))
  rename_i b5 b6
  revert b; intro b7
  refine R2.alloc2 (fun b12 b13 => ?_)
  (repeat' (first | (refine iS ?_; refine iMu ?_; refine S.mapU ?_) | refine svz ⟨fun b hq => ?_⟩ | refine sv1 ?_ | refine svs ⟨?_⟩ | refine svu ⟨fun u => ?_⟩ | (refine svg (fun hg => ?_) (fun hg => ?_) <;> try (exfalso; first | omega | contradiction)) | (refine svc (fun hc => ?_) (fun hc => ?_) <;> try (exfalso; first | omega | contradiction)) | refine sv2 ?_ | refine svh (fun hb => ?_) (fun hb => ?_) | refine svb (fun b => ?_) | refine sva ?_ | refine sv3 ?_))
  refine S.call ?_; refine (rc _).mono ?_; rintro r h' ⟨rfl, hh⟩; subst hh
  (repeat' (first | (refine iS ?_; refine iMu ?_; refine S.mapU ?_) | refine svz ⟨fun b hq => ?_⟩ | refine sv1 ?_ | refine svs ⟨?_⟩ | refine svu ⟨fun u => ?_⟩ | (refine svg (fun hg => ?_) (fun hg => ?_) <;> try (exfalso; first | omega | contradiction)) | (refine svc (fun hc => ?_) (fun hc => ?_) <;> try (exfalso; first | omega | contradiction)) | refine sv2 ?_ | refine svh (fun hb => ?_) (fun hb => ?_) | refine svb (fun b => ?_) | refine sva ?_ | refine sv3 ?_))
  generalize hM : resF up pt ow sv (rP up) sv = M at *
  have hsp : ∀ m ∈ M, MvSpec l.length up pt ow sv m := fun m hm => lv.spec (by rw [hM]; exact hm)
  have ho1 := lv.own1
  have hlN : l.length ≤ 12 := hl
  have hMl : M.length ≤ 12 := by omega
  have hsvl : sv.length ≤ 12 := by omega
  clear hsl hg hl hok hk mc oc rc hml
  refine W.loop (J := fun x : Nat × SVT × UP × PT => ⟨160, [(62, .val (.int .i64 ((x.1 : Nat)))), (61, .val (.int .i64 ((M.length : Nat)))), (60, .ro 5 (M.map MV.enc)), (4, .val (.bool (false))), (5, .val (.pointer (some ⟨b5, 0, none⟩))), (6, .val (.pointer (some ⟨b6, 0, none⟩))), (9, .ro 1 (ints .u32 (sv))), (11, .ro 1 (ints .u32 (ow))), (12, .val (.pointer (some ⟨b12, 0, none⟩))), (13, .val (.pointer (some ⟨b13, 0, none⟩)))], .box b13 [mapV .u32 vBox (x.2.2.2)] 31 :: .box b12 [mapV .u32 vIds (x.2.1), mapV .u32 (vI .u32) (x.2.2.1)] 28 :: .box b6 [mapV .u32 vBox pt] 31 :: .box b5 [mapV .u32 vIds k, mapV .u32 (vI .u32) up] 28 :: []⟩)
    (Φ := fun x => x.1 ≤ M.length ∧ SM l.length up pt (M.take x.1) x.2.2.1 x.2.2.2 ∧ KI (l.length + x.1) x.2.1 x.2.2.1) (μ := fun x => M.length - x.1) (0, k, up, pt) ⟨rfl, (by repeat (first | exact LeT.nil | refine LeT.cons rfl ?_ | refine LeT.consw rfl (by (repeat (first | exact Wk.refl _ | exact Wk.nilr _ | exact Wk.nilm | apply Wk.aggc | apply Wk.tupc | exact Wk.aggn | exact Wk.tupn)); first | done | fail) ?_)), (by repeat (first | exact LeH.refl _ | exact LeH.nil _ | refine LeH.cons (by (fail_if_success (apply tkG)); (repeat (first | exact Tk.here | apply Tk.there)); first | done | fail) ?_ | refine LeH.boxw (by (fail_if_success (apply tkG)); (repeat (first | exact Tk.here | apply Tk.there)); first | done | fail) (by (repeat (first | exact Wk.refl _ | exact Wk.nilr _ | exact Wk.nilm | apply Wk.aggc | apply Wk.tupc | exact Wk.aggn | exact Wk.tupn)); first | done | fail) ?_ | refine LeH.skip ?_))⟩ ⟨Nat.zero_le _, lv.start, hki⟩ ?_
  rintro ⟨i, k1, up1, pt1⟩ ⟨hi, hsm, hk1⟩
  dsimp only at hi hsm hk1 ⊢
  rcases Nat.lt_or_ge i M.length with hlt | hge
  · obtain ⟨m, ha⟩ : ∃ a, M[i]? = some a := ⟨_, List.getElem?_eq_getElem hlt⟩
    have hm := hsp m (List.mem_of_getElem? ha)
    have hsm1 := fun bm => hsm.step hlN hm (fun a h => hsp a (List.mem_of_mem_take h)) bm
    rw [show M.take i ++ [m] = M.take (i + 1) by rw [List.take_add_one, ha]; rfl] at hsm1
    obtain ⟨n, q, n1, n2, n3, e1, e2⟩ := hm.idx
    obtain ⟨x0, y0, mm, hform⟩ := hsm.form n n1 n2
    rw [← e1] at hform
    obtain ⟨pi, _, hup1⟩ := hsm.wf.tot n n1 n2
    rw [← e1] at hup1
    obtain ⟨L0, hL0⟩ := hk1.par _ _ hup1
    obtain ⟨Rp, hRp, hRl, hRi⟩ := hsm.wf.pth (by omega) q (by omega)
    rw [← e2] at hRp
    have hid1 : m.id ≠ 1 := by rw [e1]; exact idF_ne1 n1 (by omega)
    have hnr : m.id ∉ m.to :: Rp := fun hin => by
      rcases List.mem_cons.1 hin with e | hin
      · have := idF_inj (n := n) (m := q) (by omega) (by omega) (by rw [← e1, ← e2, e]); omega
      · obtain ⟨r, hr, e⟩ := hRi _ hin
        have := idF_inj (n := n) (m := r) (by omega) (by omega) (by rw [← e1, e]); omega
    have hidb : 0 ≤ m.id ∧ m.id ≤ 4294967295 := by rw [e1]; have := idF_bd (n := n) (by omega); omega
    have mv := fun h => move_c k1 up1 m.id m.to (idF pi) L0 Rp h hid1 hup1 hL0 hRp (by omega) hnr hk1.nd hsm.wf.nd (fun p hp => by have := hk1.len p hp; omega) (by have := hk1.cnt; omega)
    have bc := fun h => pbox_c pt1 m.id ⟨x0, y0, 5, 5, mm, 0⟩ h hform
    have sc := fun h => pset_c pt1 m.id ⟨m.x, m.y, 5, 5, mm, 0⟩ h hidb.1 hidb.2 hid1 (by rw [e1]; exact ic_id n1 (by omega)) (by have := hm.bd.1; dsimp only; omega) (by have := hm.bd.2; dsimp only; omega) (by dsimp only; omega) (by dsimp only; omega) (by dsimp only; omega) hsm.ne (by have := hsm.len; omega)
    have hc1 := fun h => rhas_c ow m.to h
    rw [decide_eq_false (lives_own hm.to ho1)] at hc1
    have hk2 := hk1.move (id := m.id) (p := m.to) hL0
    have hsm2 := hsm1 mm
    generalize mvK k1 (idF pi) m.to m.id L0 = k2 at *
    generalize putF up1 m.id m.to = up2 at *
    generalize putF pt1 m.id ⟨m.x, m.y, 5, 5, mm, 0⟩ = pt2 at *
    have hi12 : i + 1 ≤ M.length := hlt
    unfold encT at mv
    unfold encP at bc sc
    unfold vBox at bc sc
    dsimp only at bc sc
    clear hsm1 hnr hRi hRl hidb n1 n2 n3 hlN
    unfold MV.enc
    (repeat' (first | (refine iS ?_; refine iMu ?_; refine S.mapU ?_) | refine svz ⟨fun b hq => ?_⟩ | refine sv1 ?_ | refine svs ⟨?_⟩ | refine svu ⟨fun u => ?_⟩ | (refine svg (fun hg => ?_) (fun hg => ?_) <;> try (exfalso; first | omega | contradiction)) | (refine svc (fun hc => ?_) (fun hc => ?_) <;> try (exfalso; first | omega | contradiction)) | refine sv2 ?_ | refine svh (fun hb => ?_) (fun hb => ?_) | refine svb (fun b => ?_) | refine sva ?_ | refine sv3 ?_))
    revert b; intro b15
    refine S.call ?_; refine (mv _).mono ?_; rintro r h' ⟨rfl, hh⟩; subst hh
    (repeat' (first | (refine iS ?_; refine iMu ?_; refine S.mapU ?_) | refine svz ⟨fun b hq => ?_⟩ | refine sv1 ?_ | refine svs ⟨?_⟩ | refine svu ⟨fun u => ?_⟩ | (refine svg (fun hg => ?_) (fun hg => ?_) <;> try (exfalso; first | omega | contradiction)) | (refine svc (fun hc => ?_) (fun hc => ?_) <;> try (exfalso; first | omega | contradiction)) | refine sv2 ?_ | refine svh (fun hb => ?_) (fun hb => ?_) | refine svb (fun b => ?_) | refine sva ?_ | refine sv3 ?_))
    revert b; intro b16
    refine S.call ?_; refine (bc _).mono ?_; rintro r h' ⟨rfl, hh⟩; subst hh
    (repeat' ((fail_if_success (refine drg ?_)); (first | (refine iS ?_; refine iMu ?_; refine S.mapU ?_) | refine svz ⟨fun b hq => ?_⟩ | refine sv1 ?_ | refine svs ⟨?_⟩ | refine svu ⟨fun u => ?_⟩ | (refine svg (fun hg => ?_) (fun hg => ?_) <;> try (exfalso; first | omega | contradiction)) | (refine svc (fun hc => ?_) (fun hc => ?_) <;> try (exfalso; first | omega | contradiction)) | refine sv2 ?_ | refine svh (fun hb => ?_) (fun hb => ?_) | refine svb (fun b => ?_) | refine sva ?_ | refine sv3 ?_)))
    revert b; intro b18
    refine W.dr (.rw (.ro (.ro (.done _)))) ?_
    (repeat' (first | (refine iS ?_; refine iMu ?_; refine S.mapU ?_) | refine svz ⟨fun b hq => ?_⟩ | refine sv1 ?_ | refine svs ⟨?_⟩ | refine svu ⟨fun u => ?_⟩ | (refine svg (fun hg => ?_) (fun hg => ?_) <;> try (exfalso; first | omega | contradiction)) | (refine svc (fun hc => ?_) (fun hc => ?_) <;> try (exfalso; first | omega | contradiction)) | refine sv2 ?_ | refine svh (fun hb => ?_) (fun hb => ?_) | refine svb (fun b => ?_) | refine sva ?_ | refine sv3 ?_))
    refine S.call ?_; refine (sc _).mono ?_; rintro r h' ⟨rfl, hh⟩; subst hh
    (repeat' (first | (refine iS ?_; refine iMu ?_; refine S.mapU ?_) | refine svz ⟨fun b hq => ?_⟩ | refine sv1 ?_ | refine svs ⟨?_⟩ | refine svu ⟨fun u => ?_⟩ | (refine svg (fun hg => ?_) (fun hg => ?_) <;> try (exfalso; first | omega | contradiction)) | (refine svc (fun hc => ?_) (fun hc => ?_) <;> try (exfalso; first | omega | contradiction)) | refine sv2 ?_ | refine svh (fun hb => ?_) (fun hb => ?_) | refine svb (fun b => ?_) | refine sva ?_ | refine sv3 ?_))
    revert b; intro b20
    refine S.call ?_; refine (hc1 _).mono ?_; rintro r h' ⟨rfl, hh⟩; subst hh
    (repeat' ((fail_if_success (refine drg ?_)); (first | (refine iS ?_; refine iMu ?_; refine S.mapU ?_) | refine svz ⟨fun b hq => ?_⟩ | refine sv1 ?_ | refine svs ⟨?_⟩ | refine svu ⟨fun u => ?_⟩ | (refine svg (fun hg => ?_) (fun hg => ?_) <;> try (exfalso; first | omega | contradiction)) | (refine svc (fun hc => ?_) (fun hc => ?_) <;> try (exfalso; first | omega | contradiction)) | refine sv2 ?_ | refine svh (fun hb => ?_) (fun hb => ?_) | refine svb (fun b => ?_) | refine sva ?_ | refine sv3 ?_)))
    refine W.le (s' := ⟨160, [(62, .val (.int .i64 ((i : Nat)))), (61, .val (.int .i64 ((M.length : Nat)))), (60, .ro 5 (M.map MV.enc)), (16, .val (.pointer (some ⟨b16, 0, none⟩))), (20, .val (.pointer (some ⟨b20, 0, none⟩))), (4, .val (.bool (false))), (5, .val (.pointer (some ⟨b5, 0, none⟩))), (6, .val (.pointer (some ⟨b6, 0, none⟩))), (9, .ro 1 (ints .u32 (sv))), (11, .ro 1 (ints .u32 (ow))), (12, .val (.pointer (some ⟨b12, 0, none⟩))), (13, .val (.pointer (some ⟨b13, 0, none⟩)))], .box b20 [mapV .u32 vBox pt2] 31 :: .box b16 [mapV .u32 vIds k2, mapV .u32 (vI .u32) up2] 28 :: .box b13 [mapV .u32 vBox (pt1)] 31 :: .box b12 [mapV .u32 vIds (k1), mapV .u32 (vI .u32) (up1)] 28 :: .box b6 [mapV .u32 vBox pt] 31 :: .box b5 [mapV .u32 vIds k, mapV .u32 (vI .u32) up] 28 :: []⟩) ⟨rfl, (by repeat (first | exact LeT.nil | refine LeT.cons rfl ?_ | refine LeT.consw rfl (by (repeat (first | exact Wk.refl _ | exact Wk.nilr _ | exact Wk.nilm | apply Wk.aggc | apply Wk.tupc | exact Wk.aggn | exact Wk.tupn)); first | done | fail) ?_)), (by repeat (first | exact LeH.refl _ | exact LeH.nil _ | refine LeH.cons (by (fail_if_success (apply tkG)); (repeat (first | exact Tk.here | apply Tk.there)); first | done | fail) ?_ | refine LeH.boxw (by (fail_if_success (apply tkG)); (repeat (first | exact Tk.here | apply Tk.there)); first | done | fail) (by (repeat (first | exact Wk.refl _ | exact Wk.nilr _ | exact Wk.nilm | apply Wk.aggc | apply Wk.tupc | exact Wk.aggn | exact Wk.tupn)); first | done | fail) ?_ | refine LeH.skip ?_))⟩ ?_
    refine W.dr (.ro (.ro (.done _))) ?_
    (repeat' (first | (refine iS ?_; refine iMu ?_; refine S.mapU ?_) | refine svz ⟨fun b hq => ?_⟩ | refine sv1 ?_ | refine svs ⟨?_⟩ | refine svu ⟨fun u => ?_⟩ | (refine svg (fun hg => ?_) (fun hg => ?_) <;> try (exfalso; first | omega | contradiction)) | (refine svc (fun hc => ?_) (fun hc => ?_) <;> try (exfalso; first | omega | contradiction)) | refine sv2 ?_ | refine svh (fun hb => ?_) (fun hb => ?_) | refine svb (fun b => ?_) | refine sva ?_ | refine sv3 ?_))
    exact ⟨(i + 1, k2, up2, pt2), ⟨hi12, hsm2, hk2⟩, ⟨rfl, (by repeat (first | exact LeT.nil | refine LeT.cons rfl ?_ | refine LeT.consw rfl (by (repeat (first | exact Wk.refl _ | exact Wk.nilr _ | exact Wk.nilm | apply Wk.aggc | apply Wk.tupc | exact Wk.aggn | exact Wk.tupn)); first | done | fail) ?_)), (by repeat (first | exact LeH.refl _ | exact LeH.nil _ | refine LeH.cons (by (fail_if_success (apply tkG)); (repeat (first | exact Tk.here | apply Tk.there)); first | done | fail) ?_ | refine LeH.boxw (by (fail_if_success (apply tkG)); (repeat (first | exact Tk.here | apply Tk.there)); first | done | fail) (by (repeat (first | exact Wk.refl _ | exact Wk.nilr _ | exact Wk.nilm | apply Wk.aggc | apply Wk.tupc | exact Wk.aggn | exact Wk.tupn)); first | done | fail) ?_ | refine LeH.skip ?_))⟩, by dsimp only; omega⟩
  · rw [List.take_of_length_le hge] at hsm
    have hlaw := fun n hn h => lv.law (by rw [hM]; exact hsm) n hn h
    have lid : ∀ id ∈ sv, ∃ n p R R', 0 < n ∧ n ≤ 12 ∧ id = idF n ∧ lkF up id = some p ∧ Pth up id R ∧ R.length ≤ 12 ∧ (∀ w ∈ id :: R, ∃ b, lkF pt w = some b) ∧ Pth up1 id R' ∧ R'.length ≤ 12 ∧ (∀ w ∈ id :: R', ∃ b, lkF pt1 w = some b) ∧ (∀ x ∈ id :: R', x ∉ ow) ∧ sumX pt1 (id :: R') = sumX pt (id :: R) ∧ sumY pt1 (id :: R') = sumY pt (id :: R) := fun id hid => by
      obtain ⟨p, hp⟩ := lv.svk id hid
      obtain ⟨n, n1, n2, e⟩ := lv.wf.only id p hp
      obtain ⟨R, r1, r2, r3⟩ := lv.wf.pth (by omega) n n2
      obtain ⟨R', s1, s2, s3⟩ := hsm.wf.pth (by omega) n n2
      have hb1 : ∀ n, n ≤ l.length → ∃ b, lkF pt1 (idF n) = some b := fun n hn => by
        by_cases h0 : n = 0
        · subst h0; exact hsm.root
        · obtain ⟨x, y, m, e⟩ := hsm.form n (by omega) hn; exact ⟨_, e⟩
      have hlv : livesL ow sv (idF n :: rP up (idF n)) = true := by
        rw [← e]; exact livesL_saved (lv.svo id hid) hid
      obtain ⟨q1, q2, q3⟩ := hlaw n n2 hlv
      rw [rP_eq r1, rP_eq s1] at q2 q3
      rw [rP_eq s1] at q1
      rw [← e] at r1 s1 q1 q2 q3
      refine ⟨n, p, R, R', n1, by omega, e, hp, r1, by omega, fun w hw => ?_, s1, by omega, fun w hw => ?_, q1, q2, q3⟩
      · rcases List.mem_cons.1 hw with rfl | hw
        · rw [e]; exact lv.box n n2
        · obtain ⟨m, hm, rfl⟩ := r3 w hw; exact lv.box m (by omega)
      · rcases List.mem_cons.1 hw with rfl | hw
        · rw [e]; exact hb1 n n2
        · obtain ⟨m, hm, rfl⟩ := s3 w hw; exact hb1 m (by omega)
    have hbd0 : ∀ w b, lkF pt w = some b → (-40000 ≤ b.x ∧ b.x ≤ 40000) ∧ -40000 ≤ b.y ∧ b.y ≤ 40000 := fun w b h => by have := lv.bd w b h; omega
    have hbd1 : ∀ w b, lkF pt1 w = some b → (-40000 ≤ b.x ∧ b.x ≤ 40000) ∧ -40000 ≤ b.y ∧ b.y ≤ 40000 := fun w b h => by have := hsm.bd w b h; omega
    clear hsp hki hlaw hsm hk1 hlN hMl hi ho1
    (repeat' (first | (refine iS ?_; refine iMu ?_; refine S.mapU ?_) | refine svz ⟨fun b hq => ?_⟩ | refine sv1 ?_ | refine svs ⟨?_⟩ | refine svu ⟨fun u => ?_⟩ | (refine svg (fun hg => ?_) (fun hg => ?_) <;> try (exfalso; first | omega | contradiction)) | (refine svc (fun hc => ?_) (fun hc => ?_) <;> try (exfalso; first | omega | contradiction)) | refine sv2 ?_ | refine svh (fun hb => ?_) (fun hb => ?_) | refine svb (fun b => ?_) | refine sva ?_ | refine sv3 ?_))
    refine W.loop (J := fun x : Nat => ⟨160, [(117, .val (.int .i64 ((x : Nat)))), (116, .val (.int .i64 ((sv.length : Nat)))), (115, .ro 1 (ints .u32 (sv))), (4, .val (.bool (false))), (5, .val (.pointer (some ⟨b5, 0, none⟩))), (6, .val (.pointer (some ⟨b6, 0, none⟩))), (9, .ro 1 (ints .u32 (sv))), (11, .ro 1 (ints .u32 (ow))), (12, .val (.pointer (some ⟨b12, 0, none⟩))), (13, .val (.pointer (some ⟨b13, 0, none⟩)))], .box b13 [mapV .u32 vBox (pt1)] 31 :: .box b12 [mapV .u32 vIds (k1), mapV .u32 (vI .u32) (up1)] 28 :: .box b6 [mapV .u32 vBox pt] 31 :: .box b5 [mapV .u32 vIds k, mapV .u32 (vI .u32) up] 28 :: []⟩)
      (Φ := fun x => x ≤ sv.length) (μ := fun x => sv.length - x) 0 ⟨rfl, (by repeat (first | exact LeT.nil | refine LeT.cons rfl ?_ | refine LeT.consw rfl (by (repeat (first | exact Wk.refl _ | exact Wk.nilr _ | exact Wk.nilm | apply Wk.aggc | apply Wk.tupc | exact Wk.aggn | exact Wk.tupn)); first | done | fail) ?_)), (by repeat (first | exact LeH.refl _ | exact LeH.nil _ | refine LeH.cons (by (fail_if_success (apply tkG)); (repeat (first | exact Tk.here | apply Tk.there)); first | done | fail) ?_ | refine LeH.boxw (by (fail_if_success (apply tkG)); (repeat (first | exact Tk.here | apply Tk.there)); first | done | fail) (by (repeat (first | exact Wk.refl _ | exact Wk.nilr _ | exact Wk.nilm | apply Wk.aggc | apply Wk.tupc | exact Wk.aggn | exact Wk.tupn)); first | done | fail) ?_ | refine LeH.skip ?_))⟩ (Nat.zero_le _) ?_
    intro z hz
    rcases Nat.lt_or_ge z sv.length with hzl | hzg
    · obtain ⟨id, ha⟩ : ∃ a, sv[z]? = some a := ⟨_, List.getElem?_eq_getElem hzl⟩
      obtain ⟨n, p, R, R', n1, n2, e, hp, r1, r2, r3, s1, s2, s3, q1, q2, q3⟩ := lid id (List.mem_of_getElem? ha)
      have o1 := fun h => origin_c k up pt id R h r1 (by omega) r3 hbd0
      have o2 := fun h => origin_c k1 up1 pt1 id R' h s1 (by omega) s3 hbd1
      rw [q2, q3] at o2
      have pa := fun h => path_c k1 up1 id R' h s1 (by omega)
      have hPl : (id :: R').length ≤ 13 := by simp; omega
      generalize sumX pt (id :: R) = sx at *
      generalize sumY pt (id :: R) = sy at *
      generalize id :: R' = P at *
      unfold encT encP at o1 o2
      unfold encT at pa
      clear n1 n2 r2 s2 q2 q3 e
      (repeat' (first | (refine iS ?_; refine iMu ?_; refine S.mapU ?_) | refine svz ⟨fun b hq => ?_⟩ | refine sv1 ?_ | refine svs ⟨?_⟩ | refine svu ⟨fun u => ?_⟩ | (refine svg (fun hg => ?_) (fun hg => ?_) <;> try (exfalso; first | omega | contradiction)) | (refine svc (fun hc => ?_) (fun hc => ?_) <;> try (exfalso; first | omega | contradiction)) | refine sv2 ?_ | refine svh (fun hb => ?_) (fun hb => ?_) | refine svb (fun b => ?_) | refine sva ?_ | refine sv3 ?_))
      refine S.call ?_; refine (o1 _).mono ?_; rintro r h' ⟨rfl, hh⟩; subst hh
      (repeat' (first | (refine iS ?_; refine iMu ?_; refine S.mapU ?_) | refine svz ⟨fun b hq => ?_⟩ | refine sv1 ?_ | refine svs ⟨?_⟩ | refine svu ⟨fun u => ?_⟩ | (refine svg (fun hg => ?_) (fun hg => ?_) <;> try (exfalso; first | omega | contradiction)) | (refine svc (fun hc => ?_) (fun hc => ?_) <;> try (exfalso; first | omega | contradiction)) | refine sv2 ?_ | refine svh (fun hb => ?_) (fun hb => ?_) | refine svb (fun b => ?_) | refine sva ?_ | refine sv3 ?_))
      revert b; intro b24
      refine S.call ?_; refine (o2 _).mono ?_; rintro r h' ⟨rfl, hh⟩; subst hh
      (repeat' (first | (refine iS ?_; refine iMu ?_; refine S.mapU ?_) | refine svz ⟨fun b hq => ?_⟩ | refine sv1 ?_ | refine svs ⟨?_⟩ | refine svu ⟨fun u => ?_⟩ | (refine svg (fun hg => ?_) (fun hg => ?_) <;> try (exfalso; first | omega | contradiction)) | (refine svc (fun hc => ?_) (fun hc => ?_) <;> try (exfalso; first | omega | contradiction)) | refine sv2 ?_ | refine svh (fun hb => ?_) (fun hb => ?_) | refine svb (fun b => ?_) | refine sva ?_ | refine sv3 ?_))
      refine S.V (v := .val (.bool false)) ?_ (pur_neqS (p := true) (sh := [true, true]) rfl rfl (by repeat (first | exact IEqS.nil | apply IEqS.i | apply IEqS.b)) rfl (by simp [Scl.eq]))
      (repeat' (first | (refine iS ?_; refine iMu ?_; refine S.mapU ?_) | refine svz ⟨fun b hq => ?_⟩ | refine sv1 ?_ | refine svs ⟨?_⟩ | refine svu ⟨fun u => ?_⟩ | (refine svg (fun hg => ?_) (fun hg => ?_) <;> try (exfalso; first | omega | contradiction)) | (refine svc (fun hc => ?_) (fun hc => ?_) <;> try (exfalso; first | omega | contradiction)) | refine sv2 ?_ | refine svh (fun hb => ?_) (fun hb => ?_) | refine svb (fun b => ?_) | refine sva ?_ | refine sv3 ?_))
      refine S.call ?_; refine (pa _).mono ?_; rintro r h' ⟨rfl, hh⟩; subst hh
      (repeat' (first | (refine iS ?_; refine iMu ?_; refine S.mapU ?_) | refine svz ⟨fun b hq => ?_⟩ | refine sv1 ?_ | refine svs ⟨?_⟩ | refine svu ⟨fun u => ?_⟩ | (refine svg (fun hg => ?_) (fun hg => ?_) <;> try (exfalso; first | omega | contradiction)) | (refine svc (fun hc => ?_) (fun hc => ?_) <;> try (exfalso; first | omega | contradiction)) | refine sv2 ?_ | refine svh (fun hb => ?_) (fun hb => ?_) | refine svb (fun b => ?_) | refine sva ?_ | refine sv3 ?_))
      refine W.loop (J := fun y : Nat => ⟨160, [(150, .val (.int .i64 ((y : Nat)))), (149, .val (.int .i64 ((P.length : Nat)))), (148, .ro 1 (ints .u32 (P))), (117, .val (.int .i64 ((z : Nat)))), (116, .val (.int .i64 ((sv.length : Nat)))), (115, .ro 1 (ints .u32 (sv))), (4, .val (.bool (false))), (5, .val (.pointer (some ⟨b5, 0, none⟩))), (6, .val (.pointer (some ⟨b6, 0, none⟩))), (9, .ro 1 (ints .u32 (sv))), (11, .ro 1 (ints .u32 (ow))), (12, .val (.pointer (some ⟨b12, 0, none⟩))), (13, .val (.pointer (some ⟨b13, 0, none⟩)))], .box b13 [mapV .u32 vBox (pt1)] 31 :: .box b12 [mapV .u32 vIds (k1), mapV .u32 (vI .u32) (up1)] 28 :: .box b6 [mapV .u32 vBox pt] 31 :: .box b5 [mapV .u32 vIds k, mapV .u32 (vI .u32) up] 28 :: []⟩)
        (Φ := fun y => y ≤ P.length) (μ := fun y => P.length - y) 0 ⟨rfl, (by repeat (first | exact LeT.nil | refine LeT.cons rfl ?_ | refine LeT.consw rfl (by (repeat (first | exact Wk.refl _ | exact Wk.nilr _ | exact Wk.nilm | apply Wk.aggc | apply Wk.tupc | exact Wk.aggn | exact Wk.tupn)); first | done | fail) ?_)), (by repeat (first | exact LeH.refl _ | exact LeH.nil _ | refine LeH.cons (by (fail_if_success (apply tkG)); (repeat (first | exact Tk.here | apply Tk.there)); first | done | fail) ?_ | refine LeH.boxw (by (fail_if_success (apply tkG)); (repeat (first | exact Tk.here | apply Tk.there)); first | done | fail) (by (repeat (first | exact Wk.refl _ | exact Wk.nilr _ | exact Wk.nilm | apply Wk.aggc | apply Wk.tupc | exact Wk.aggn | exact Wk.tupn)); first | done | fail) ?_ | refine LeH.skip ?_))⟩ (Nat.zero_le _) ?_
      intro y hy
      rcases Nat.lt_or_ge y P.length with hyl | hyg
      · obtain ⟨x, hx⟩ : ∃ a, P[y]? = some a := ⟨_, List.getElem?_eq_getElem hyl⟩
        have rh := fun h => rhas_c ow x h
        rw [decide_eq_false (q1 x (List.mem_of_getElem? hx))] at rh
        (repeat' (first | (refine iS ?_; refine iMu ?_; refine S.mapU ?_) | refine svz ⟨fun b hq => ?_⟩ | refine sv1 ?_ | refine svs ⟨?_⟩ | refine svu ⟨fun u => ?_⟩ | (refine svg (fun hg => ?_) (fun hg => ?_) <;> try (exfalso; first | omega | contradiction)) | (refine svc (fun hc => ?_) (fun hc => ?_) <;> try (exfalso; first | omega | contradiction)) | refine sv2 ?_ | refine svh (fun hb => ?_) (fun hb => ?_) | refine svb (fun b => ?_) | refine sva ?_ | refine sv3 ?_))
        refine S.call ?_; refine (rh _).mono ?_; rintro r h' ⟨rfl, hh⟩; subst hh
        (repeat' (first | (refine iS ?_; refine iMu ?_; refine S.mapU ?_) | refine svz ⟨fun b hq => ?_⟩ | refine sv1 ?_ | refine svs ⟨?_⟩ | refine svu ⟨fun u => ?_⟩ | (refine svg (fun hg => ?_) (fun hg => ?_) <;> try (exfalso; first | omega | contradiction)) | (refine svc (fun hc => ?_) (fun hc => ?_) <;> try (exfalso; first | omega | contradiction)) | refine sv2 ?_ | refine svh (fun hb => ?_) (fun hb => ?_) | refine svb (fun b => ?_) | refine sva ?_ | refine sv3 ?_))
        exact ⟨y + 1, hyl, ⟨rfl, (by repeat (first | exact LeT.nil | refine LeT.cons rfl ?_ | refine LeT.consw rfl (by (repeat (first | exact Wk.refl _ | exact Wk.nilr _ | exact Wk.nilm | apply Wk.aggc | apply Wk.tupc | exact Wk.aggn | exact Wk.tupn)); first | done | fail) ?_)), (by repeat (first | exact LeH.refl _ | exact LeH.nil _ | refine LeH.cons (by (fail_if_success (apply tkG)); (repeat (first | exact Tk.here | apply Tk.there)); first | done | fail) ?_ | refine LeH.boxw (by (fail_if_success (apply tkG)); (repeat (first | exact Tk.here | apply Tk.there)); first | done | fail) (by (repeat (first | exact Wk.refl _ | exact Wk.nilr _ | exact Wk.nilm | apply Wk.aggc | apply Wk.tupc | exact Wk.aggn | exact Wk.tupn)); first | done | fail) ?_ | refine LeH.skip ?_))⟩, by omega⟩
      · (repeat' (first | (refine iS ?_; refine iMu ?_; refine S.mapU ?_) | refine svz ⟨fun b hq => ?_⟩ | refine sv1 ?_ | refine svs ⟨?_⟩ | refine svu ⟨fun u => ?_⟩ | (refine svg (fun hg => ?_) (fun hg => ?_) <;> try (exfalso; first | omega | contradiction)) | (refine svc (fun hc => ?_) (fun hc => ?_) <;> try (exfalso; first | omega | contradiction)) | refine sv2 ?_ | refine svh (fun hb => ?_) (fun hb => ?_) | refine svb (fun b => ?_) | refine sva ?_ | refine sv3 ?_))
        exact ⟨z + 1, hzl, ⟨rfl, (by repeat (first | exact LeT.nil | refine LeT.cons rfl ?_ | refine LeT.consw rfl (by (repeat (first | exact Wk.refl _ | exact Wk.nilr _ | exact Wk.nilm | apply Wk.aggc | apply Wk.tupc | exact Wk.aggn | exact Wk.tupn)); first | done | fail) ?_)), (by repeat (first | exact LeH.refl _ | exact LeH.nil _ | refine LeH.cons (by (fail_if_success (apply tkG)); (repeat (first | exact Tk.here | apply Tk.there)); first | done | fail) ?_ | refine LeH.boxw (by (fail_if_success (apply tkG)); (repeat (first | exact Tk.here | apply Tk.there)); first | done | fail) (by (repeat (first | exact Wk.refl _ | exact Wk.nilr _ | exact Wk.nilm | apply Wk.aggc | apply Wk.tupc | exact Wk.aggn | exact Wk.tupn)); first | done | fail) ?_ | refine LeH.skip ?_))⟩, by omega⟩
    · (repeat' (first | (refine iS ?_; refine iMu ?_; refine S.mapU ?_) | refine svz ⟨fun b hq => ?_⟩ | refine sv1 ?_ | refine svs ⟨?_⟩ | refine svu ⟨fun u => ?_⟩ | (refine svg (fun hg => ?_) (fun hg => ?_) <;> try (exfalso; first | omega | contradiction)) | (refine svc (fun hc => ?_) (fun hc => ?_) <;> try (exfalso; first | omega | contradiction)) | refine sv2 ?_ | refine svh (fun hb => ?_) (fun hb => ?_) | refine svb (fun b => ?_) | refine sva ?_ | refine sv3 ?_))
      refine S.call ?_; refine (awake_c _).mono ?_; rintro r h' ⟨rfl, hh⟩; subst hh
      (repeat' (first | (refine iS ?_; refine iMu ?_; refine S.mapU ?_) | refine svz ⟨fun b hq => ?_⟩ | refine sv1 ?_ | refine svs ⟨?_⟩ | refine svu ⟨fun u => ?_⟩ | (refine svg (fun hg => ?_) (fun hg => ?_) <;> try (exfalso; first | omega | contradiction)) | (refine svc (fun hc => ?_) (fun hc => ?_) <;> try (exfalso; first | omega | contradiction)) | refine sv2 ?_ | refine svh (fun hb => ?_) (fun hb => ?_) | refine svb (fun b => ?_) | refine sva ?_ | refine sv3 ?_))
      exact fin_r (h' := _) rfl
theorem lives_row : ∀ l, FitAll maxLen [.sl 5 (.fld 1 (.int .u8) (.fld 1 (.int .i8) (.fld 1 (.int .i8) (.fld 1 (.bool) (.fld 1 (.bool) (.nil)))))), .sl 1 (.int .u8)] l → ACalls Try.prog 7 l [] (fun r h' => r = .val (.bool true)) := by
  rintro l ⟨x, _, rfl, hx, y, _, rfl, hy, rfl⟩
  obtain ⟨ws, rfl, _, hw⟩ := wn_fit hx
  obtain ⟨g, rfl, _, hg⟩ := fit_ints hy
  exact slives_c ws g hw fun n hn => wf_u8 (hg n hn)
end Go.Proofs.Ytkpbbiknhhmfiaa
