/- SavesetRescues. No condition. -/
import Derived.Test.YtkpbbiknhhmfiaaQ19
namespace Go.Proofs.Ytkpbbiknhhmfiaa
open Go Go.VM
attribute [local irreducible] PurV Pur Step RL W D ACalls Then InBlock Fini
set_option linter.unusedVariables false
set_option linter.unusedSimpArgs false
set_option maxHeartbeats 20000000
theorem own_odd {n : Nat} {g : List Int} {j : Nat} (hn : n ≤ 100) (hj : j ≤ 100) (ho : j % 2 = 1) : idF j ∉ ownF n g := fun h => by
  obtain ⟨i, h1, h2, h3, e⟩ := ownF_mem h
  have := idF_inj (by omega) (by omega) e
  omega
theorem own_1 {n : Nat} {g : List Int} (hn : n ≤ 100) : (1 : Int) ∉ ownF n g := fun h => by
  obtain ⟨i, h1, h2, h3, e⟩ := ownF_mem h
  exact idF_ne1 h1 (by omega) e.symm
theorem dropL_ne {own saved : List Int} {up : UP} {id : Int} {L : List Int} (h : Pth up id L) : ∃ to T D, dropL own saved (id :: L) = to :: T ∧ id :: L = D ++ to :: T ∧ Pth up to T := by
  induction h with
  | root => exact ⟨1, [], [], dropL_hit (livesL_root _ _ _), rfl, .root⟩
  | @up id p R h1 h2 r ih =>
    cases hl : livesL own saved (id :: p :: R) with
    | true => exact ⟨id, p :: R, [], dropL_hit hl, rfl, .up h1 h2 r⟩
    | false =>
      obtain ⟨to, T, D, e1, e2, e3⟩ := ih
      exact ⟨to, T, id :: D, by rw [dropL_miss hl, e1], by rw [e2]; rfl, e3⟩
theorem pt_at {l : List WN} (hl : l.length ≤ 100) {j : Nat} {w : WN} (h : l[j]? = some w) : bxF (ptL l) (idF (j + 1)) = ⟨w.x, w.y, 5, 5, w.m, 0⟩ := by
  unfold bxF
  rw [lkF_nodup (ptL_nodup l hl) (ptL_at h)]
  rfl
theorem up_at {l : List WN} (hl : l.length ≤ 100) {j : Nat} {w : WN} (h : l[j]? = some w) : lkF (upL l) (idF (j + 1)) = some (idF (parI w j)) := lkF_nodup (upL_wf l hl).nd (upL_at h)
/-- The window that an id is. -/
theorem up_idx {l : List WN} (hl : l.length ≤ 100) {id p : Int} (h : lkF (upL l) id = some p) : ∃ j w, l[j]? = some w ∧ id = idF (j + 1) := by
  obtain ⟨n, h1, h2, e⟩ := (upL_wf l hl).only id p h
  exact ⟨n - 1, l[n - 1], List.getElem?_eq_getElem (by omega), by rw [e, show n - 1 + 1 = n by omega]⟩
theorem ofS_stS_len (sv : List Int) (c : Int) : (ofS (stS sv) c).length ≤ sv.length := by
  by_cases hc : c = 1
  · rw [hc, ofS_stS]; exact Nat.le_refl _
  · rw [ofS_stS_ne _ hc]; exact Nat.zero_le _
set_option maxRecDepth 100000 in
theorem resc_c (l : List WN) (g : List Int) (hok : ∀ w ∈ l, w.Ok) (hk : ∀ n ∈ g, 0 ≤ n ∧ n ≤ 255) :
    ACalls Try.prog 3 [.ro 5 (l.map WN.enc), .ro 1 (ints .u8 g)] [] (fun r h' => r = .val (.bool (true))) := by
  by_cases hl : l.length ≤ 12
  rotate_left
  · refine ACalls.intro Try.func3 rfl Try.ntmps3 Try.results3 (Nat.le_of_ble_eq_true rfl) ?_
    refine W.len 0 rfl (fun hll => ?_); simp only [ints, splice, List.length_map, List.length_append, List.length_cons, List.length_nil, List.length_take, List.length_drop, List.length_set, List.length_replicate] at hll
    (repeat' (first | (refine iS ?_; refine iMu ?_; refine S.mapU ?_) | refine svz ⟨fun b hq => ?_⟩ | refine sv1 ?_ | refine svs ⟨?_⟩ | refine svu ⟨fun u => ?_⟩ | (refine svg (fun hg => ?_) (fun hg => ?_) <;> try (exfalso; first | omega | contradiction)) | (refine svc (fun hc => ?_) (fun hc => ?_) <;> try (exfalso; first | omega | contradiction)) | refine sv2 ?_ | refine svh (fun hb => ?_) (fun hb => ?_) | refine svb (fun b => ?_) | refine sva ?_ | refine sv3 ?_))
    refine S.call ?_; refine (awake_c _).mono ?_; rintro r h' ⟨rfl, hh⟩; subst hh
    (repeat' (first | (refine iS ?_; refine iMu ?_; refine S.mapU ?_) | refine svz ⟨fun b hq => ?_⟩ | refine sv1 ?_ | refine svs ⟨?_⟩ | refine svu ⟨fun u => ?_⟩ | (refine svg (fun hg => ?_) (fun hg => ?_) <;> try (exfalso; first | omega | contradiction)) | (refine svc (fun hc => ?_) (fun hc => ?_) <;> try (exfalso; first | omega | contradiction)) | refine sv2 ?_ | refine svh (fun hb => ?_) (fun hb => ?_) | refine svb (fun b => ?_) | refine sva ?_ | refine sv3 ?_))
    exact fin_r (h' := _) rfl
  by_cases hg : g.length ≤ 20
  rotate_left
  · refine ACalls.intro Try.func3 rfl Try.ntmps3 Try.results3 (Nat.le_of_ble_eq_true rfl) ?_
    refine W.len 0 rfl (fun hll => ?_); simp only [ints, splice, List.length_map, List.length_append, List.length_cons, List.length_nil, List.length_take, List.length_drop, List.length_set, List.length_replicate] at hll
    refine W.len 1 rfl (fun hlg => ?_); simp only [ints, splice, List.length_map, List.length_append, List.length_cons, List.length_nil, List.length_take, List.length_drop, List.length_set, List.length_replicate] at hlg
    (repeat' (first | (refine iS ?_; refine iMu ?_; refine S.mapU ?_) | refine svz ⟨fun b hq => ?_⟩ | refine sv1 ?_ | refine svs ⟨?_⟩ | refine svu ⟨fun u => ?_⟩ | (refine svg (fun hg => ?_) (fun hg => ?_) <;> try (exfalso; first | omega | contradiction)) | (refine svc (fun hc => ?_) (fun hc => ?_) <;> try (exfalso; first | omega | contradiction)) | refine sv2 ?_ | refine svh (fun hb => ?_) (fun hb => ?_) | refine svb (fun b => ?_) | refine sva ?_ | refine sv3 ?_))
    refine S.call ?_; refine (awake_c _).mono ?_; rintro r h' ⟨rfl, hh⟩; subst hh
    (repeat' (first | (refine iS ?_; refine iMu ?_; refine S.mapU ?_) | refine svz ⟨fun b hq => ?_⟩ | refine sv1 ?_ | refine svs ⟨?_⟩ | refine svu ⟨fun u => ?_⟩ | (refine svg (fun hg => ?_) (fun hg => ?_) <;> try (exfalso; first | omega | contradiction)) | (refine svc (fun hc => ?_) (fun hc => ?_) <;> try (exfalso; first | omega | contradiction)) | refine sv2 ?_ | refine svh (fun hb => ?_) (fun hb => ?_) | refine svb (fun b => ?_) | refine sva ?_ | refine sv3 ?_))
    exact fin_r (h' := _) rfl
  have mc := fun h => made_c l h hl hok
  have oc := fun h => own_c l.length g h (by omega) (by omega) hk
  have wf := upL_wf l (by omega)
  have hbx := fun n (hn : n ≤ l.length) => ptL_box (l := l) (by omega) hn
  have hsl := svL_len l
  have rc := fun k c h => rescue_c k (upL l) (ptL l) (stS (svL l)) c (ownF l.length g) (rP (upL l)) h (wf.n0 (by omega)) (by have := ofS_stS_len (svL l) c; omega) (fun id hid p hp => wfP wf (by omega) hbx hp) (fun w b hb => ptL_bd hok hb)
  have r1 := fun k h => rc k 1 h
  have r2 := fun k h => rc k 2 h
  have r9 := fun k h => rc k 9 h
  rw [ofS_stS] at r1
  simp only [ofS_stS_ne _ (show (2 : Int) ≠ 1 by decide), show ∀ own R, resF (upL l) (ptL l) own [] R [] = [] from fun _ _ => rfl] at r2
  simp only [ofS_stS_ne _ (show (9 : Int) ≠ 1 by decide), show ∀ own R, resF (upL l) (ptL l) own [] R [] = [] from fun _ _ => rfl] at r9
  have sc := fun h => sorted_c (svL l) h (by omega)
  rw [svL_srt l (by omega)] at sc
  have hmem := fun id (h : id ∈ svL l) => svL_mem h
  have h0 := wf.n0 (by omega)
  have h1 := wf.n1 (by omega)
  have hw1 := own_1 (g := g) (show l.length ≤ 100 by omega)
  have hodd := fun j (hj : j ≤ 100) (ho : j % 2 = 1) => own_odd (g := g) (show l.length ≤ 100 by omega) hj ho
  have hpt := fun j w (h : l[j]? = some w) => pt_at (l := l) (by omega) h
  have hix := fun id p (h : lkF (upL l) id = some p) => up_idx (l := l) (by omega) h
  have hupa := fun j w (h : l[j]? = some w) => up_at (l := l) (by omega) h
  have hbd := fun (x : Int) (b : BX) (h : lkF (ptL l) x = some b) => ptL_bd hok h
  clear rc
  unfold encT encP encS encU at *
  generalize stS (svL l) = st at *
  generalize svL l = sv at *
  generalize ownF l.length g = ow at *
  refine ACalls.intro Try.func3 rfl Try.ntmps3 Try.results3 (Nat.le_of_ble_eq_true rfl) ?_
  (repeat' (first | (refine iS ?_; refine iMu ?_; refine S.mapU ?_) | refine svz ⟨fun b hq => ?_⟩ | refine sv1 ?_ | refine svs ⟨?_⟩ | refine svu ⟨fun u => ?_⟩ | (refine svg (fun hg => ?_) (fun hg => ?_) <;> try (exfalso; first | omega | contradiction)) | (refine svc (fun hc => ?_) (fun hc => ?_) <;> try (exfalso; first | omega | contradiction)) | refine sv2 ?_ | refine svh (fun hb => ?_) (fun hb => ?_) | refine svb (fun b => ?_) | refine sva ?_ | refine sv3 ?_))
  refine S.call ?_
  refine (mc _).mono ?_
  rintro r h' ⟨k, hki, rfl, hh⟩
  subst hh
  have r1 := r1 k
  have r2 := r2 k
  have r9 := r9 k
  generalize upL l = up at *
  generalize ptL l = pt at *
  (repeat' (first | (refine iS ?_; refine iMu ?_; refine S.mapU ?_) | refine svz ⟨fun b hq => ?_⟩ | refine sv1 ?_ | refine svs ⟨?_⟩ | refine svu ⟨fun u => ?_⟩ | (refine svg (fun hg => ?_) (fun hg => ?_) <;> try (exfalso; first | omega | contradiction)) | (refine svc (fun hc => ?_) (fun hc => ?_) <;> try (exfalso; first | omega | contradiction)) | refine sv2 ?_ | refine svh (fun hb => ?_) (fun hb => ?_) | refine svb (fun b => ?_) | refine sva ?_ | refine sv3 ?_))
  rename_i b5 b6
  revert b; intro b7
  refine S.call ?_; refine (oc _).mono ?_; rintro r h' ⟨rfl, hh⟩; subst hh
  (repeat' (first | (refine iS ?_; refine iMu ?_; refine S.mapU ?_) | refine svz ⟨fun b hq => ?_⟩ | refine sv1 ?_ | refine svs ⟨?_⟩ | refine svu ⟨fun u => ?_⟩ | (refine svg (fun hg => ?_) (fun hg => ?_) <;> try (exfalso; first | omega | contradiction)) | (refine svc (fun hc => ?_) (fun hc => ?_) <;> try (exfalso; first | omega | contradiction)) | refine sv2 ?_ | refine svh (fun hb => ?_) (fun hb => ?_) | refine svb (fun b => ?_) | refine sva ?_ | refine sv3 ?_))
  refine S.call ?_; refine (sc _).mono ?_; rintro r h' ⟨rfl, hh⟩; subst hh
  (repeat' (first | (refine iS ?_; refine iMu ?_; refine S.mapU ?_) | refine svz ⟨fun b hq => ?_⟩ | refine sv1 ?_ | refine svs ⟨?_⟩ | refine svu ⟨fun u => ?_⟩ | (refine svg (fun hg => ?_) (fun hg => ?_) <;> try (exfalso; first | omega | contradiction)) | (refine svc (fun hc => ?_) (fun hc => ?_) <;> try (exfalso; first | omega | contradiction)) | refine sv2 ?_ | refine svh (fun hb => ?_) (fun hb => ?_) | refine svb (fun b => ?_) | refine sva ?_ | refine sv3 ?_))
  refine W.nil_ 5 52 ?_
  refine W.loop (J := fun x : Nat × Value => ⟨179, [(52, .val (.int .i64 ((x.1 : Nat)))), (12, .val x.2), (51, .val (.int .i64 ((sv.length : Nat)))), (50, .ro 1 (ints .u32 (sv))), (0, .ro 5 (l.map WN.enc)), (4, .val (.bool (false))), (5, .val (.pointer (some ⟨b5, 0, none⟩))), (6, .val (.pointer (some ⟨b6, 0, none⟩))), (7, .val (.pointer (some ⟨b7, 0, none⟩))), (8, .ro 2 (up.map vPr)), (9, .ro 1 (ints .u32 (sv))), (11, .ro 1 (ints .u32 (ow)))], .own x.2 5 ((resF up pt ow sv (rP up) (sv.take x.1)).map MV.enc) 52 :: .box b7 [mapV .i64 vIds st] 34 :: .box b6 [mapV .u32 vBox pt] 31 :: .box b5 [mapV .u32 vIds k, mapV .u32 (vI .u32) up] 28 :: []⟩)
    (Φ := fun x => x.1 ≤ sv.length) (μ := fun x => sv.length - x.1) (0, .slice none 0 0) ⟨rfl, (by repeat (first | exact LeT.nil | refine LeT.cons rfl ?_ | refine LeT.consw rfl (by (repeat (first | exact Wk.refl _ | exact Wk.nilr _ | exact Wk.nilm | apply Wk.aggc | apply Wk.tupc | exact Wk.aggn | exact Wk.tupn)); first | done | fail) ?_)), (by repeat (first | exact LeH.refl _ | exact LeH.nil _ | refine LeH.cons (by (fail_if_success (apply tkG)); (repeat (first | exact Tk.here | apply Tk.there)); first | done | fail) ?_ | refine LeH.boxw (by (fail_if_success (apply tkG)); (repeat (first | exact Tk.here | apply Tk.there)); first | done | fail) (by (repeat (first | exact Wk.refl _ | exact Wk.nilr _ | exact Wk.nilm | apply Wk.aggc | apply Wk.tupc | exact Wk.aggn | exact Wk.tupn)); first | done | fail) ?_ | refine LeH.skip ?_))⟩ (Nat.zero_le _) ?_
  rintro ⟨i, v⟩ hi
  dsimp only at hi ⊢
  rcases Nat.lt_or_ge i sv.length with hlt | hge
  · obtain ⟨id, ha⟩ : ∃ a, sv[i]? = some a := ⟨_, List.getElem?_eq_getElem hlt⟩
    have hs := resF_snoc up pt ow sv (rP up) (sv.take i) id
    rw [show sv.take i ++ [id] = sv.take (i + 1) by rw [List.take_add_one, ha]; rfl] at hs
    have hlr : (resF up pt ow sv (rP up) (sv.take i)).length ≤ 100000 := by
      have h1 := List.length_filterMap_le (mvS up pt ow sv (rP up)) (sv.take i)
      rw [List.length_take] at h1
      unfold resF; omega
    generalize resF up pt ow sv (rP up) (sv.take i) = M0 at *
    obtain ⟨j, w, hj, hws, hpar, hid⟩ := hmem id (List.mem_of_getElem? ha)
    have hjl := lt_of_some hj
    have hup : lkF up id = some (idF (parI w j)) := by rw [hid]; exact hupa j w hj
    have hno : id ∉ ow := by rw [hid]; exact hodd (j + 1) (by omega) hpar
    have hbw : bxF pt id = ⟨w.x, w.y, 5, 5, w.m, 0⟩ := by rw [hid]; exact hpt j w hj
    generalize hpe : idF (parI w j) = p at *
    obtain ⟨hid1, hpth, hpl, hpb⟩ := wfP wf (by omega) hbx hup
    unfold mvS at hs
    rw [hup] at hs
    simp only [Option.bind_some] at hs
    generalize rP up p = PT0 at *
    have hpthid : Pth up id (p :: PT0) := .up hid1 hup hpth
    have pc := fun x h => par_c up x h
    unfold encU at pc
    have pc1 := fun h => pc id h
    rw [hup] at pc1
    dsimp only [Option.getD_some] at pc1
    have lc := fun h => livesr_c up sv ow p PT0 h hpth h0 h1 (by omega) hw1
    have qc := fun h => parr_c up sv ow id (p :: PT0) h hpthid h0 h1 (by simp; omega) hw1
    unfold encU at lc qc
    unfold mvF at hs
    cases h4 : livesL ow sv (p :: PT0) with
    | true =>
      rw [if_pos (.inr h4), Option.toList_none, List.append_nil] at hs
      rw [h4] at lc
      (repeat' (first | (refine iS ?_; refine iMu ?_; refine S.mapU ?_) | refine svz ⟨fun b hq => ?_⟩ | refine sv1 ?_ | refine svs ⟨?_⟩ | refine svu ⟨fun u => ?_⟩ | (refine svg (fun hg => ?_) (fun hg => ?_) <;> try (exfalso; first | omega | contradiction)) | (refine svc (fun hc => ?_) (fun hc => ?_) <;> try (exfalso; first | omega | contradiction)) | refine sv2 ?_ | refine svh (fun hb => ?_) (fun hb => ?_) | refine svb (fun b => ?_) | refine sva ?_ | refine sv3 ?_))
      refine S.call ?_; refine (pc1 _).mono ?_; rintro r h' ⟨rfl, hh⟩; subst hh
      (repeat' (first | (refine iS ?_; refine iMu ?_; refine S.mapU ?_) | refine svz ⟨fun b hq => ?_⟩ | refine sv1 ?_ | refine svs ⟨?_⟩ | refine svu ⟨fun u => ?_⟩ | (refine svg (fun hg => ?_) (fun hg => ?_) <;> try (exfalso; first | omega | contradiction)) | (refine svc (fun hc => ?_) (fun hc => ?_) <;> try (exfalso; first | omega | contradiction)) | refine sv2 ?_ | refine svh (fun hb => ?_) (fun hb => ?_) | refine svb (fun b => ?_) | refine sva ?_ | refine sv3 ?_))
      refine S.call ?_; refine (lc _).mono ?_; rintro r h' ⟨rfl, hh⟩; subst hh
      (repeat' (first | (refine iS ?_; refine iMu ?_; refine S.mapU ?_) | refine svz ⟨fun b hq => ?_⟩ | refine sv1 ?_ | refine svs ⟨?_⟩ | refine svu ⟨fun u => ?_⟩ | (refine svg (fun hg => ?_) (fun hg => ?_) <;> try (exfalso; first | omega | contradiction)) | (refine svc (fun hc => ?_) (fun hc => ?_) <;> try (exfalso; first | omega | contradiction)) | refine sv2 ?_ | refine svh (fun hb => ?_) (fun hb => ?_) | refine svb (fun b => ?_) | refine sva ?_ | refine sv3 ?_))
      exact ⟨(i + 1, v), hlt, by dsimp only; rw [hs]; exact ⟨rfl, (by repeat (first | exact LeT.nil | refine LeT.cons rfl ?_ | refine LeT.consw rfl (by (repeat (first | exact Wk.refl _ | exact Wk.nilr _ | exact Wk.nilm | apply Wk.aggc | apply Wk.tupc | exact Wk.aggn | exact Wk.tupn)); first | done | fail) ?_)), (by repeat (first | exact LeH.refl _ | exact LeH.nil _ | refine LeH.cons (by (fail_if_success (apply tkG)); (repeat (first | exact Tk.here | apply Tk.there)); first | done | fail) ?_ | refine LeH.boxw (by (fail_if_success (apply tkG)); (repeat (first | exact Tk.here | apply Tk.there)); first | done | fail) (by (repeat (first | exact Wk.refl _ | exact Wk.nilr _ | exact Wk.nilm | apply Wk.aggc | apply Wk.tupc | exact Wk.aggn | exact Wk.tupn)); first | done | fail) ?_ | refine LeH.skip ?_))⟩, by dsimp only; omega⟩
    | false =>
      rw [if_neg (by rw [h4]; exact fun q => q.elim hno (fun q => by cases q)), Option.toList_some] at hs
      rw [h4] at lc
      obtain ⟨to, TT, DD, hdr, hcut, htp⟩ := dropL_ne (own := ow) (saved := sv) hpth
      rw [hdr] at hs qc
      simp only [List.headD_cons] at hs qc
      rw [hbw] at hs
      dsimp only at hs
      have hd1 := sumX_bd hbd (id :: p :: PT0)
      have hd2 := sumX_bd hbd (to :: TT)
      have hlT : (to :: TT).length ≤ (p :: PT0).length := by rw [hcut, List.length_append]; omega
      simp only [List.length_cons] at hd1 hlT
      (repeat' (first | (refine iS ?_; refine iMu ?_; refine S.mapU ?_) | refine svz ⟨fun b hq => ?_⟩ | refine sv1 ?_ | refine svs ⟨?_⟩ | refine svu ⟨fun u => ?_⟩ | (refine svg (fun hg => ?_) (fun hg => ?_) <;> try (exfalso; first | omega | contradiction)) | (refine svc (fun hc => ?_) (fun hc => ?_) <;> try (exfalso; first | omega | contradiction)) | refine sv2 ?_ | refine svh (fun hb => ?_) (fun hb => ?_) | refine svb (fun b => ?_) | refine sva ?_ | refine sv3 ?_))
      refine S.call ?_; refine (pc1 _).mono ?_; rintro r h' ⟨rfl, hh⟩; subst hh
      (repeat' (first | (refine iS ?_; refine iMu ?_; refine S.mapU ?_) | refine svz ⟨fun b hq => ?_⟩ | refine sv1 ?_ | refine svs ⟨?_⟩ | refine svu ⟨fun u => ?_⟩ | (refine svg (fun hg => ?_) (fun hg => ?_) <;> try (exfalso; first | omega | contradiction)) | (refine svc (fun hc => ?_) (fun hc => ?_) <;> try (exfalso; first | omega | contradiction)) | refine sv2 ?_ | refine svh (fun hb => ?_) (fun hb => ?_) | refine svb (fun b => ?_) | refine sva ?_ | refine sv3 ?_))
      refine S.call ?_; refine (lc _).mono ?_; rintro r h' ⟨rfl, hh⟩; subst hh
      (repeat' (first | (refine iS ?_; refine iMu ?_; refine S.mapU ?_) | refine svz ⟨fun b hq => ?_⟩ | refine sv1 ?_ | refine svs ⟨?_⟩ | refine svu ⟨fun u => ?_⟩ | (refine svg (fun hg => ?_) (fun hg => ?_) <;> try (exfalso; first | omega | contradiction)) | (refine svc (fun hc => ?_) (fun hc => ?_) <;> try (exfalso; first | omega | contradiction)) | refine sv2 ?_ | refine svh (fun hb => ?_) (fun hb => ?_) | refine svb (fun b => ?_) | refine sva ?_ | refine sv3 ?_))
      refine S.call ?_; refine (qc _).mono ?_; rintro r h' ⟨rfl, hh⟩; subst hh
      (repeat' (first | (refine iS ?_; refine iMu ?_; refine S.mapU ?_) | refine svz ⟨fun b hq => ?_⟩ | refine sv1 ?_ | refine svs ⟨?_⟩ | refine svu ⟨fun u => ?_⟩ | (refine svg (fun hg => ?_) (fun hg => ?_) <;> try (exfalso; first | omega | contradiction)) | (refine svc (fun hc => ?_) (fun hc => ?_) <;> try (exfalso; first | omega | contradiction)) | refine sv2 ?_ | refine svh (fun hb => ?_) (fun hb => ?_) | refine svb (fun b => ?_) | refine sva ?_ | refine sv3 ?_))
      refine W.loop (J := fun x : Int × List Int × Int × Int => ⟨179, [(17, .val (.int .i64 (x.2.2.1))), (18, .val (.int .i64 (x.2.2.2))), (19, .val (.int .u32 (x.1))), (16, .val (.int .u32 (to))), (14, .val (.int .u32 (id))), (52, .val (.int .i64 ((i : Nat)))), (12, .val v), (51, .val (.int .i64 ((sv.length : Nat)))), (50, .ro 1 (ints .u32 (sv))), (0, .ro 5 (l.map WN.enc)), (4, .val (.bool (false))), (5, .val (.pointer (some ⟨b5, 0, none⟩))), (6, .val (.pointer (some ⟨b6, 0, none⟩))), (7, .val (.pointer (some ⟨b7, 0, none⟩))), (8, .ro 2 (up.map vPr)), (9, .ro 1 (ints .u32 (sv))), (11, .ro 1 (ints .u32 (ow)))], .own v 5 (M0.map MV.enc) 52 :: .box b7 [mapV .i64 vIds st] 34 :: .box b6 [mapV .u32 vBox pt] 31 :: .box b5 [mapV .u32 vIds k, mapV .u32 (vI .u32) up] 28 :: []⟩)
        (Φ := fun x => Pth up x.1 x.2.1 ∧ (∃ D, x.1 :: x.2.1 = D ++ to :: TT) ∧ x.2.1.length ≤ 901 ∧ x.2.2.1 = sumX pt (id :: p :: PT0) - sumX pt (x.1 :: x.2.1) ∧ x.2.2.2 = sumY pt (id :: p :: PT0) - sumY pt (x.1 :: x.2.1)) (μ := fun x => x.2.1.length) (id, p :: PT0, 0, 0) ⟨rfl, (by repeat (first | exact LeT.nil | refine LeT.cons rfl ?_ | refine LeT.consw rfl (by (repeat (first | exact Wk.refl _ | exact Wk.nilr _ | exact Wk.nilm | apply Wk.aggc | apply Wk.tupc | exact Wk.aggn | exact Wk.tupn)); first | done | fail) ?_)), (by repeat (first | exact LeH.refl _ | exact LeH.nil _ | refine LeH.cons (by (fail_if_success (apply tkG)); (repeat (first | exact Tk.here | apply Tk.there)); first | done | fail) ?_ | refine LeH.boxw (by (fail_if_success (apply tkG)); (repeat (first | exact Tk.here | apply Tk.there)); first | done | fail) (by (repeat (first | exact Wk.refl _ | exact Wk.nilr _ | exact Wk.nilm | apply Wk.aggc | apply Wk.tupc | exact Wk.aggn | exact Wk.tupn)); first | done | fail) ?_ | refine LeH.skip ?_))⟩ ⟨hpthid, ⟨id :: DD, by rw [hcut]; rfl⟩, by simp; omega, by dsimp only; omega, by dsimp only; omega⟩ ?_
      rintro ⟨at', L, x, y⟩ ⟨hq, ⟨D, hD⟩, hql, hx, hy⟩
      dsimp only at hq hD hql hx hy ⊢
      by_cases hat : at' = to
      · subst hat
        have hLT := hq.uniq htp
        subst hLT
        rw [← hx, ← hy] at hs
        clear hx hy hd1 hd2 hD hcut hdr hlT hpl hql hpar
        (repeat' (first | (refine iS ?_; refine iMu ?_; refine S.mapU ?_) | refine svz ⟨fun b hq => ?_⟩ | refine sv1 ?_ | refine svs ⟨?_⟩ | refine svu ⟨fun u => ?_⟩ | (refine svg (fun hg => ?_) (fun hg => ?_) <;> try (exfalso; first | omega | contradiction)) | (refine svc (fun hc => ?_) (fun hc => ?_) <;> try (exfalso; first | omega | contradiction)) | refine sv2 ?_ | refine svh (fun hb => ?_) (fun hb => ?_) | refine svb (fun b => ?_) | refine sva ?_ | refine sv3 ?_))
        refine W.loop (J := fun z : Nat => ⟨179, [(105, .val (.int .i64 ((z : Nat)))), (104, .val (.int .i64 ((l.length : Nat)))), (103, .ro 5 (l.map WN.enc)), (21, .val (.bool (decide (j < z) && w.m))), (17, .val (.int .i64 (x))), (18, .val (.int .i64 (y))), (16, .val (.int .u32 (at'))), (14, .val (.int .u32 (id))), (52, .val (.int .i64 ((i : Nat)))), (12, .val v), (51, .val (.int .i64 ((sv.length : Nat)))), (50, .ro 1 (ints .u32 (sv))), (0, .ro 5 (l.map WN.enc)), (4, .val (.bool (false))), (5, .val (.pointer (some ⟨b5, 0, none⟩))), (6, .val (.pointer (some ⟨b6, 0, none⟩))), (7, .val (.pointer (some ⟨b7, 0, none⟩))), (8, .ro 2 (up.map vPr)), (9, .ro 1 (ints .u32 (sv))), (11, .ro 1 (ints .u32 (ow)))], .own v 5 (M0.map MV.enc) 52 :: .box b7 [mapV .i64 vIds st] 34 :: .box b6 [mapV .u32 vBox pt] 31 :: .box b5 [mapV .u32 vIds k, mapV .u32 (vI .u32) up] 28 :: []⟩)
          (Φ := fun z => z ≤ l.length) (μ := fun z => l.length - z) 0 ⟨rfl, (by repeat (first | exact LeT.nil | refine LeT.cons rfl ?_ | refine LeT.consw rfl (by (repeat (first | exact Wk.refl _ | exact Wk.nilr _ | exact Wk.nilm | apply Wk.aggc | apply Wk.tupc | exact Wk.aggn | exact Wk.tupn)); first | done | fail) ?_)), (by repeat (first | exact LeH.refl _ | exact LeH.nil _ | refine LeH.cons (by (fail_if_success (apply tkG)); (repeat (first | exact Tk.here | apply Tk.there)); first | done | fail) ?_ | refine LeH.boxw (by (fail_if_success (apply tkG)); (repeat (first | exact Tk.here | apply Tk.there)); first | done | fail) (by (repeat (first | exact Wk.refl _ | exact Wk.nilr _ | exact Wk.nilm | apply Wk.aggc | apply Wk.tupc | exact Wk.aggn | exact Wk.tupn)); first | done | fail) ?_ | refine LeH.skip ?_))⟩ (Nat.zero_le _) ?_
        intro z hz
        rcases Nat.lt_or_ge z l.length with hzl | hzg
        · obtain ⟨w2, hw2⟩ : ∃ a, l[z]? = some a := ⟨_, List.getElem?_eq_getElem hzl⟩
          have ic : ∀ h, ACalls Try.prog _ [.val (.int .i64 ((z : Int) + 1))] h (fun r h' => r = .val (.int .u32 (idF (z + 1))) ∧ h' = h) := fun h => by have := id_c (z + 1) h (by omega); rwa [show ((z + 1 : Nat) : Int) = (z : Int) + 1 by omega] at this
          unfold WN.enc
          by_cases hzj : z = j
          · subst hzj
            have e : w2 = w := by rw [hw2] at hj; injection hj
            subst e
            rw [show (decide (z < z) && w2.m) = false by simp]
            rw [← hid] at ic
            (repeat' (first | (refine iS ?_; refine iMu ?_; refine S.mapU ?_) | refine svz ⟨fun b hq => ?_⟩ | refine sv1 ?_ | refine svs ⟨?_⟩ | refine svu ⟨fun u => ?_⟩ | (refine svg (fun hg => ?_) (fun hg => ?_) <;> try (exfalso; first | omega | contradiction)) | (refine svc (fun hc => ?_) (fun hc => ?_) <;> try (exfalso; first | omega | contradiction)) | refine sv2 ?_ | refine svh (fun hb => ?_) (fun hb => ?_) | refine svb (fun b => ?_) | refine sva ?_ | refine sv3 ?_))
            refine S.call ?_; refine (ic _).mono ?_; rintro r h' ⟨rfl, hh⟩; subst hh
            (repeat' (first | (refine iS ?_; refine iMu ?_; refine S.mapU ?_) | refine svz ⟨fun b hq => ?_⟩ | refine sv1 ?_ | refine svs ⟨?_⟩ | refine svu ⟨fun u => ?_⟩ | (refine svg (fun hg => ?_) (fun hg => ?_) <;> try (exfalso; first | omega | contradiction)) | (refine svc (fun hc => ?_) (fun hc => ?_) <;> try (exfalso; first | omega | contradiction)) | refine sv2 ?_ | refine svh (fun hb => ?_) (fun hb => ?_) | refine svb (fun b => ?_) | refine sva ?_ | refine sv3 ?_))
            exact ⟨z + 1, hzl, by rw [show (decide (z < z + 1) && w2.m) = w2.m by simp]; exact ⟨rfl, (by repeat (first | exact LeT.nil | refine LeT.cons rfl ?_ | refine LeT.consw rfl (by (repeat (first | exact Wk.refl _ | exact Wk.nilr _ | exact Wk.nilm | apply Wk.aggc | apply Wk.tupc | exact Wk.aggn | exact Wk.tupn)); first | done | fail) ?_)), (by repeat (first | exact LeH.refl _ | exact LeH.nil _ | refine LeH.cons (by (fail_if_success (apply tkG)); (repeat (first | exact Tk.here | apply Tk.there)); first | done | fail) ?_ | refine LeH.boxw (by (fail_if_success (apply tkG)); (repeat (first | exact Tk.here | apply Tk.there)); first | done | fail) (by (repeat (first | exact Wk.refl _ | exact Wk.nilr _ | exact Wk.nilm | apply Wk.aggc | apply Wk.tupc | exact Wk.aggn | exact Wk.tupn)); first | done | fail) ?_ | refine LeH.skip ?_))⟩, by omega⟩
          · have hne : ¬ idF (z + 1) = id := fun e => hzj (by rw [hid] at e; have := idF_inj (by omega) (by omega) e; omega)
            have em : (decide (j < z + 1) && w.m) = (decide (j < z) && w.m) := by rw [decide_eq_decide.2 (show j < z + 1 ↔ j < z by omega)]
            generalize idF (z + 1) = iz at *
            cases hm : (decide (j < z) && w.m) with
            | true =>
              rw [hm] at em
              (repeat' (first | (refine iS ?_; refine iMu ?_; refine S.mapU ?_) | refine svz ⟨fun b hq => ?_⟩ | refine sv1 ?_ | refine svs ⟨?_⟩ | refine svu ⟨fun u => ?_⟩ | (refine svg (fun hg => ?_) (fun hg => ?_) <;> try (exfalso; first | omega | contradiction)) | (refine svc (fun hc => ?_) (fun hc => ?_) <;> try (exfalso; first | omega | contradiction)) | refine sv2 ?_ | refine svh (fun hb => ?_) (fun hb => ?_) | refine svb (fun b => ?_) | refine sva ?_ | refine sv3 ?_))
              exact ⟨z + 1, hzl, by rw [em]; exact ⟨rfl, (by repeat (first | exact LeT.nil | refine LeT.cons rfl ?_ | refine LeT.consw rfl (by (repeat (first | exact Wk.refl _ | exact Wk.nilr _ | exact Wk.nilm | apply Wk.aggc | apply Wk.tupc | exact Wk.aggn | exact Wk.tupn)); first | done | fail) ?_)), (by repeat (first | exact LeH.refl _ | exact LeH.nil _ | refine LeH.cons (by (fail_if_success (apply tkG)); (repeat (first | exact Tk.here | apply Tk.there)); first | done | fail) ?_ | refine LeH.boxw (by (fail_if_success (apply tkG)); (repeat (first | exact Tk.here | apply Tk.there)); first | done | fail) (by (repeat (first | exact Wk.refl _ | exact Wk.nilr _ | exact Wk.nilm | apply Wk.aggc | apply Wk.tupc | exact Wk.aggn | exact Wk.tupn)); first | done | fail) ?_ | refine LeH.skip ?_))⟩, by omega⟩
            | false =>
              rw [hm] at em
              (repeat' (first | (refine iS ?_; refine iMu ?_; refine S.mapU ?_) | refine svz ⟨fun b hq => ?_⟩ | refine sv1 ?_ | refine svs ⟨?_⟩ | refine svu ⟨fun u => ?_⟩ | (refine svg (fun hg => ?_) (fun hg => ?_) <;> try (exfalso; first | omega | contradiction)) | (refine svc (fun hc => ?_) (fun hc => ?_) <;> try (exfalso; first | omega | contradiction)) | refine sv2 ?_ | refine svh (fun hb => ?_) (fun hb => ?_) | refine svb (fun b => ?_) | refine sva ?_ | refine sv3 ?_))
              refine S.call ?_; refine (ic _).mono ?_; rintro r h' ⟨rfl, hh⟩; subst hh
              (repeat' (first | (refine iS ?_; refine iMu ?_; refine S.mapU ?_) | refine svz ⟨fun b hq => ?_⟩ | refine sv1 ?_ | refine svs ⟨?_⟩ | refine svu ⟨fun u => ?_⟩ | (refine svg (fun hg => ?_) (fun hg => ?_) <;> try (exfalso; first | omega | contradiction)) | (refine svc (fun hc => ?_) (fun hc => ?_) <;> try (exfalso; first | omega | contradiction)) | refine sv2 ?_ | refine svh (fun hb => ?_) (fun hb => ?_) | refine svb (fun b => ?_) | refine sva ?_ | refine sv3 ?_))
              exact ⟨z + 1, hzl, by rw [em]; exact ⟨rfl, (by repeat (first | exact LeT.nil | refine LeT.cons rfl ?_ | refine LeT.consw rfl (by (repeat (first | exact Wk.refl _ | exact Wk.nilr _ | exact Wk.nilm | apply Wk.aggc | apply Wk.tupc | exact Wk.aggn | exact Wk.tupn)); first | done | fail) ?_)), (by repeat (first | exact LeH.refl _ | exact LeH.nil _ | refine LeH.cons (by (fail_if_success (apply tkG)); (repeat (first | exact Tk.here | apply Tk.there)); first | done | fail) ?_ | refine LeH.boxw (by (fail_if_success (apply tkG)); (repeat (first | exact Tk.here | apply Tk.there)); first | done | fail) (by (repeat (first | exact Wk.refl _ | exact Wk.nilr _ | exact Wk.nilm | apply Wk.aggc | apply Wk.tupc | exact Wk.aggn | exact Wk.tupn)); first | done | fail) ?_ | refine LeH.skip ?_))⟩, by omega⟩
        · rw [show (decide (j < z) && w.m) = w.m by simp; omega]
          (repeat' (first | (refine iS ?_; refine iMu ?_; refine S.mapU ?_) | refine svz ⟨fun b hq => ?_⟩ | refine sv1 ?_ | refine svs ⟨?_⟩ | refine svu ⟨fun u => ?_⟩ | (refine svg (fun hg => ?_) (fun hg => ?_) <;> try (exfalso; first | omega | contradiction)) | (refine svc (fun hc => ?_) (fun hc => ?_) <;> try (exfalso; first | omega | contradiction)) | refine sv2 ?_ | refine svh (fun hb => ?_) (fun hb => ?_) | refine svb (fun b => ?_) | refine sva ?_ | refine sv3 ?_))
          exact ⟨(i + 1, u), hlt, by dsimp only; rw [hs, List.map_append]; exact ⟨rfl, (by repeat (first | exact LeT.nil | refine LeT.cons rfl ?_ | refine LeT.consw rfl (by (repeat (first | exact Wk.refl _ | exact Wk.nilr _ | exact Wk.nilm | apply Wk.aggc | apply Wk.tupc | exact Wk.aggn | exact Wk.tupn)); first | done | fail) ?_)), (by repeat (first | exact LeH.refl _ | exact LeH.nil _ | refine LeH.cons (by (fail_if_success (apply tkG)); (repeat (first | exact Tk.here | apply Tk.there)); first | done | fail) ?_ | refine LeH.boxw (by (fail_if_success (apply tkG)); (repeat (first | exact Tk.here | apply Tk.there)); first | done | fail) (by (repeat (first | exact Wk.refl _ | exact Wk.nilr _ | exact Wk.nilm | apply Wk.aggc | apply Wk.tupc | exact Wk.aggn | exact Wk.tupn)); first | done | fail) ?_ | refine LeH.skip ?_))⟩, by dsimp only; omega⟩
      · cases hq with
        | root =>
          cases D with
          | nil => injection hD with e; exact absurd e hat
          | cons d D => injection hD with _ e; exact absurd e.symm (by simp)
        | @up _ q L2 g1 g2 gr =>
          obtain ⟨n2, w2, hn2, hat2⟩ := hix at' q g2
          have hnl := lt_of_some hn2
          have hb2 := hpt n2 w2 hn2
          rw [← hat2] at hb2
          obtain ⟨D2, hD2⟩ : ∃ D2, q :: L2 = D2 ++ to :: TT := by
            cases D with
            | nil => injection hD with e; exact absurd e hat
            | cons d D => injection hD with _ e; exact ⟨D, e⟩
          have hd3 := sumX_bd hbd (q :: L2)
          simp only [List.length_cons] at hd3 hql
          have sx : sumX pt (at' :: q :: L2) = w2.x + sumX pt (q :: L2) := by rw [sumX, if_neg g1, hb2]
          have sy : sumY pt (at' :: q :: L2) = w2.y + sumY pt (q :: L2) := by rw [sumY, if_neg g1, hb2]
          rw [sx] at hx
          rw [sy] at hy
          clear sx sy hD hd2
          have hwo := hok w2 (List.mem_of_getElem? hn2)
          obtain ⟨_, hwx, hwy⟩ := hwo
          have pc2 := fun h => pc at' h
          rw [g2] at pc2
          dsimp only [Option.getD_some] at pc2
          have fx : x + w2.x = sumX pt (id :: p :: PT0) - sumX pt (q :: L2) := by omega
          have fy : y + w2.y = sumY pt (id :: p :: PT0) - sumY pt (q :: L2) := by omega
          have hxb : -100000000 ≤ x ∧ x ≤ 100000000 := by omega
          have hyb : -100000000 ≤ y ∧ y ≤ 100000000 := by omega
          have hql2 : L2.length ≤ 900 := by omega
          have fx : Unit → x + w2.x = sumX pt (id :: p :: PT0) - sumX pt (q :: L2) := fun _ => fx
          have fy : Unit → y + w2.y = sumY pt (id :: p :: PT0) - sumY pt (q :: L2) := fun _ => fy
          have hql2 : Unit → L2.length ≤ 900 := fun _ => hql2
          clear hx hy hd1 hd3 hlT hpl hlr hsl hjl hql hpar
          (repeat' (first | (refine iS ?_; refine iMu ?_; refine S.mapU ?_) | refine svz ⟨fun b hq => ?_⟩ | refine sv1 ?_ | refine svs ⟨?_⟩ | refine svu ⟨fun u => ?_⟩ | (refine svg (fun hg => ?_) (fun hg => ?_) <;> try (exfalso; first | omega | contradiction)) | (refine svc (fun hc => ?_) (fun hc => ?_) <;> try (exfalso; first | omega | contradiction)) | refine sv2 ?_ | refine svh (fun hb => ?_) (fun hb => ?_) | refine svb (fun b => ?_) | refine sva ?_ | refine sv3 ?_))
          refine W.loop (J := fun z : Nat => ⟨179, [(75, .val (.int .i64 ((z : Nat)))), (74, .val (.int .i64 ((l.length : Nat)))), (73, .ro 5 (l.map WN.enc)), (17, .val (.int .i64 (if n2 < z then x + w2.x else x))), (18, .val (.int .i64 (if n2 < z then y + w2.y else y))), (19, .val (.int .u32 (at'))), (16, .val (.int .u32 (to))), (14, .val (.int .u32 (id))), (52, .val (.int .i64 ((i : Nat)))), (12, .val v), (51, .val (.int .i64 ((sv.length : Nat)))), (50, .ro 1 (ints .u32 (sv))), (0, .ro 5 (l.map WN.enc)), (4, .val (.bool (false))), (5, .val (.pointer (some ⟨b5, 0, none⟩))), (6, .val (.pointer (some ⟨b6, 0, none⟩))), (7, .val (.pointer (some ⟨b7, 0, none⟩))), (8, .ro 2 (up.map vPr)), (9, .ro 1 (ints .u32 (sv))), (11, .ro 1 (ints .u32 (ow)))], .own v 5 (M0.map MV.enc) 52 :: .box b7 [mapV .i64 vIds st] 34 :: .box b6 [mapV .u32 vBox pt] 31 :: .box b5 [mapV .u32 vIds k, mapV .u32 (vI .u32) up] 28 :: []⟩)
            (Φ := fun z => z ≤ l.length) (μ := fun z => l.length - z) 0 (by rw [if_neg (by omega), if_neg (by omega)]; exact ⟨rfl, (by repeat (first | exact LeT.nil | refine LeT.cons rfl ?_ | refine LeT.consw rfl (by (repeat (first | exact Wk.refl _ | exact Wk.nilr _ | exact Wk.nilm | apply Wk.aggc | apply Wk.tupc | exact Wk.aggn | exact Wk.tupn)); first | done | fail) ?_)), (by repeat (first | exact LeH.refl _ | exact LeH.nil _ | refine LeH.cons (by (fail_if_success (apply tkG)); (repeat (first | exact Tk.here | apply Tk.there)); first | done | fail) ?_ | refine LeH.boxw (by (fail_if_success (apply tkG)); (repeat (first | exact Tk.here | apply Tk.there)); first | done | fail) (by (repeat (first | exact Wk.refl _ | exact Wk.nilr _ | exact Wk.nilm | apply Wk.aggc | apply Wk.tupc | exact Wk.aggn | exact Wk.tupn)); first | done | fail) ?_ | refine LeH.skip ?_))⟩) (Nat.zero_le _) ?_
          intro z hz
          rcases Nat.lt_or_ge z l.length with hzl | hzg
          · obtain ⟨w3, hw3⟩ : ∃ a, l[z]? = some a := ⟨_, List.getElem?_eq_getElem hzl⟩
            have ic : ∀ h, ACalls Try.prog _ [.val (.int .i64 ((z : Int) + 1))] h (fun r h' => r = .val (.int .u32 (idF (z + 1))) ∧ h' = h) := fun h => by have := id_c (z + 1) h (by omega); rwa [show ((z + 1 : Nat) : Int) = (z : Int) + 1 by omega] at this
            unfold WN.enc
            by_cases hzj : z = n2
            · subst hzj
              have e : w3 = w2 := by rw [hw3] at hn2; injection hn2
              subst e
              rw [if_neg (by omega), if_neg (by omega)]
              rw [← hat2] at ic
              (repeat' (first | (refine iS ?_; refine iMu ?_; refine S.mapU ?_) | refine svz ⟨fun b hq => ?_⟩ | refine sv1 ?_ | refine svs ⟨?_⟩ | refine svu ⟨fun u => ?_⟩ | (refine svg (fun hg => ?_) (fun hg => ?_) <;> try (exfalso; first | omega | contradiction)) | (refine svc (fun hc => ?_) (fun hc => ?_) <;> try (exfalso; first | omega | contradiction)) | refine sv2 ?_ | refine svh (fun hb => ?_) (fun hb => ?_) | refine svb (fun b => ?_) | refine sva ?_ | refine sv3 ?_))
              refine S.call ?_; refine (ic _).mono ?_; rintro r h' ⟨rfl, hh⟩; subst hh
              (repeat' (first | (refine iS ?_; refine iMu ?_; refine S.mapU ?_) | refine svz ⟨fun b hq => ?_⟩ | refine sv1 ?_ | refine svs ⟨?_⟩ | refine svu ⟨fun u => ?_⟩ | (refine svg (fun hg => ?_) (fun hg => ?_) <;> try (exfalso; first | omega | contradiction)) | (refine svc (fun hc => ?_) (fun hc => ?_) <;> try (exfalso; first | omega | contradiction)) | refine sv2 ?_ | refine svh (fun hb => ?_) (fun hb => ?_) | refine svb (fun b => ?_) | refine sva ?_ | refine sv3 ?_))
              exact ⟨z + 1, hzl, by rw [if_pos (by omega), if_pos (by omega)]; exact ⟨rfl, (by repeat (first | exact LeT.nil | refine LeT.cons rfl ?_ | refine LeT.consw rfl (by (repeat (first | exact Wk.refl _ | exact Wk.nilr _ | exact Wk.nilm | apply Wk.aggc | apply Wk.tupc | exact Wk.aggn | exact Wk.tupn)); first | done | fail) ?_)), (by repeat (first | exact LeH.refl _ | exact LeH.nil _ | refine LeH.cons (by (fail_if_success (apply tkG)); (repeat (first | exact Tk.here | apply Tk.there)); first | done | fail) ?_ | refine LeH.boxw (by (fail_if_success (apply tkG)); (repeat (first | exact Tk.here | apply Tk.there)); first | done | fail) (by (repeat (first | exact Wk.refl _ | exact Wk.nilr _ | exact Wk.nilm | apply Wk.aggc | apply Wk.tupc | exact Wk.aggn | exact Wk.tupn)); first | done | fail) ?_ | refine LeH.skip ?_))⟩, by omega⟩
            · have hne : ¬ idF (z + 1) = at' := fun e => hzj (by rw [hat2] at e; have := idF_inj (by omega) (by omega) e; omega)
              have ex : (if n2 < z + 1 then x + w2.x else x) = (if n2 < z then x + w2.x else x) := by split <;> split <;> omega
              have ey : (if n2 < z + 1 then y + w2.y else y) = (if n2 < z then y + w2.y else y) := by split <;> split <;> omega
              generalize idF (z + 1) = iz at *
              (repeat' (first | (refine iS ?_; refine iMu ?_; refine S.mapU ?_) | refine svz ⟨fun b hq => ?_⟩ | refine sv1 ?_ | refine svs ⟨?_⟩ | refine svu ⟨fun u => ?_⟩ | (refine svg (fun hg => ?_) (fun hg => ?_) <;> try (exfalso; first | omega | contradiction)) | (refine svc (fun hc => ?_) (fun hc => ?_) <;> try (exfalso; first | omega | contradiction)) | refine sv2 ?_ | refine svh (fun hb => ?_) (fun hb => ?_) | refine svb (fun b => ?_) | refine sva ?_ | refine sv3 ?_))
              refine S.call ?_; refine (ic _).mono ?_; rintro r h' ⟨rfl, hh⟩; subst hh
              (repeat' (first | (refine iS ?_; refine iMu ?_; refine S.mapU ?_) | refine svz ⟨fun b hq => ?_⟩ | refine sv1 ?_ | refine svs ⟨?_⟩ | refine svu ⟨fun u => ?_⟩ | (refine svg (fun hg => ?_) (fun hg => ?_) <;> try (exfalso; first | omega | contradiction)) | (refine svc (fun hc => ?_) (fun hc => ?_) <;> try (exfalso; first | omega | contradiction)) | refine sv2 ?_ | refine svh (fun hb => ?_) (fun hb => ?_) | refine svb (fun b => ?_) | refine sva ?_ | refine sv3 ?_))
              exact ⟨z + 1, hzl, by rw [ex, ey]; exact ⟨rfl, (by repeat (first | exact LeT.nil | refine LeT.cons rfl ?_ | refine LeT.consw rfl (by (repeat (first | exact Wk.refl _ | exact Wk.nilr _ | exact Wk.nilm | apply Wk.aggc | apply Wk.tupc | exact Wk.aggn | exact Wk.tupn)); first | done | fail) ?_)), (by repeat (first | exact LeH.refl _ | exact LeH.nil _ | refine LeH.cons (by (fail_if_success (apply tkG)); (repeat (first | exact Tk.here | apply Tk.there)); first | done | fail) ?_ | refine LeH.boxw (by (fail_if_success (apply tkG)); (repeat (first | exact Tk.here | apply Tk.there)); first | done | fail) (by (repeat (first | exact Wk.refl _ | exact Wk.nilr _ | exact Wk.nilm | apply Wk.aggc | apply Wk.tupc | exact Wk.aggn | exact Wk.tupn)); first | done | fail) ?_ | refine LeH.skip ?_))⟩, by omega⟩
          · rw [if_pos (by omega), if_pos (by omega)]
            (repeat' (first | (refine iS ?_; refine iMu ?_; refine S.mapU ?_) | refine svz ⟨fun b hq => ?_⟩ | refine sv1 ?_ | refine svs ⟨?_⟩ | refine svu ⟨fun u => ?_⟩ | (refine svg (fun hg => ?_) (fun hg => ?_) <;> try (exfalso; first | omega | contradiction)) | (refine svc (fun hc => ?_) (fun hc => ?_) <;> try (exfalso; first | omega | contradiction)) | refine sv2 ?_ | refine svh (fun hb => ?_) (fun hb => ?_) | refine svb (fun b => ?_) | refine sva ?_ | refine sv3 ?_))
            refine S.call ?_; refine (pc2 _).mono ?_; rintro r h' ⟨rfl, hh⟩; subst hh
            (repeat' (first | (refine iS ?_; refine iMu ?_; refine S.mapU ?_) | refine svz ⟨fun b hq => ?_⟩ | refine sv1 ?_ | refine svs ⟨?_⟩ | refine svu ⟨fun u => ?_⟩ | (refine svg (fun hg => ?_) (fun hg => ?_) <;> try (exfalso; first | omega | contradiction)) | (refine svc (fun hc => ?_) (fun hc => ?_) <;> try (exfalso; first | omega | contradiction)) | refine sv2 ?_ | refine svh (fun hb => ?_) (fun hb => ?_) | refine svb (fun b => ?_) | refine sva ?_ | refine sv3 ?_))
            exact ⟨(q, L2, x + w2.x, y + w2.y), ⟨gr, ⟨D2, hD2⟩, Nat.le_succ_of_le (hql2 ()), fx (), fy ()⟩, ⟨rfl, (by repeat (first | exact LeT.nil | refine LeT.cons rfl ?_ | refine LeT.consw rfl (by (repeat (first | exact Wk.refl _ | exact Wk.nilr _ | exact Wk.nilm | apply Wk.aggc | apply Wk.tupc | exact Wk.aggn | exact Wk.tupn)); first | done | fail) ?_)), (by repeat (first | exact LeH.refl _ | exact LeH.nil _ | refine LeH.cons (by (fail_if_success (apply tkG)); (repeat (first | exact Tk.here | apply Tk.there)); first | done | fail) ?_ | refine LeH.boxw (by (fail_if_success (apply tkG)); (repeat (first | exact Tk.here | apply Tk.there)); first | done | fail) (by (repeat (first | exact Wk.refl _ | exact Wk.nilr _ | exact Wk.nilm | apply Wk.aggc | apply Wk.tupc | exact Wk.aggn | exact Wk.tupn)); first | done | fail) ?_ | refine LeH.skip ?_))⟩, by dsimp only; simp⟩
  · rw [List.take_of_length_le hge]
    have hlr : (resF up pt ow sv (rP up) sv).length ≤ 100000 := by
      have h1 := List.length_filterMap_le (mvS up pt ow sv (rP up)) sv
      unfold resF; omega
    generalize resF up pt ow sv (rP up) sv = M at *
    refine W.frz (v := v) (by (fail_if_success (apply tkG)); (repeat (first | exact Tk.here | apply Tk.there)); first | done | fail) (by repeat' (first | apply FrzT.cons | exact FrzT.rest _ | exact Frz.hit | apply Frz.aggc | apply Frz.tupc | exact Frz.aggn | exact Frz.tupn | exact Frz.keep _)) (by repeat' (first | apply FrzH.box | apply FrzH.keep | exact FrzH.rest _ | exact Frz.hit | apply Frz.aggc | apply Frz.tupc | exact Frz.aggn | exact Frz.tupn | exact Frz.keep _)) ?_
    (repeat' (first | (refine iS ?_; refine iMu ?_; refine S.mapU ?_) | refine svz ⟨fun b hq => ?_⟩ | refine sv1 ?_ | refine svs ⟨?_⟩ | refine svu ⟨fun u => ?_⟩ | (refine svg (fun hg => ?_) (fun hg => ?_) <;> try (exfalso; first | omega | contradiction)) | (refine svc (fun hc => ?_) (fun hc => ?_) <;> try (exfalso; first | omega | contradiction)) | refine sv2 ?_ | refine svh (fun hb => ?_) (fun hb => ?_) | refine svb (fun b => ?_) | refine sva ?_ | refine sv3 ?_))
    refine S.call ?_; refine (r1 _).mono ?_; rintro r h' ⟨rfl, hh⟩; subst hh
    (repeat' (first | (refine iS ?_; refine iMu ?_; refine S.mapU ?_) | refine svz ⟨fun b hq => ?_⟩ | refine sv1 ?_ | refine svs ⟨?_⟩ | refine svu ⟨fun u => ?_⟩ | (refine svg (fun hg => ?_) (fun hg => ?_) <;> try (exfalso; first | omega | contradiction)) | (refine svc (fun hc => ?_) (fun hc => ?_) <;> try (exfalso; first | omega | contradiction)) | refine sv2 ?_ | refine svh (fun hb => ?_) (fun hb => ?_) | refine svb (fun b => ?_) | refine sva ?_ | refine sv3 ?_))
    refine W.loop (J := fun z : Nat => ⟨179, [(147, .val (.int .i64 ((z : Nat)))), (146, .val (.int .i64 ((M.length : Nat)))), (23, .ro 5 (M.map MV.enc)), (12, .ro 5 (M.map MV.enc)), (0, .ro 5 (l.map WN.enc)), (4, .val (.bool (false))), (5, .val (.pointer (some ⟨b5, 0, none⟩))), (6, .val (.pointer (some ⟨b6, 0, none⟩))), (7, .val (.pointer (some ⟨b7, 0, none⟩))), (8, .ro 2 (up.map vPr)), (9, .ro 1 (ints .u32 (sv))), (11, .ro 1 (ints .u32 (ow)))], .box b7 [mapV .i64 vIds st] 34 :: .box b6 [mapV .u32 vBox pt] 31 :: .box b5 [mapV .u32 vIds k, mapV .u32 (vI .u32) up] 28 :: []⟩)
      (Φ := fun z => z ≤ M.length) (μ := fun z => M.length - z) 0 ⟨rfl, (by repeat (first | exact LeT.nil | refine LeT.cons rfl ?_ | refine LeT.consw rfl (by (repeat (first | exact Wk.refl _ | exact Wk.nilr _ | exact Wk.nilm | apply Wk.aggc | apply Wk.tupc | exact Wk.aggn | exact Wk.tupn)); first | done | fail) ?_)), (by repeat (first | exact LeH.refl _ | exact LeH.nil _ | refine LeH.cons (by (fail_if_success (apply tkG)); (repeat (first | exact Tk.here | apply Tk.there)); first | done | fail) ?_ | refine LeH.boxw (by (fail_if_success (apply tkG)); (repeat (first | exact Tk.here | apply Tk.there)); first | done | fail) (by (repeat (first | exact Wk.refl _ | exact Wk.nilr _ | exact Wk.nilm | apply Wk.aggc | apply Wk.tupc | exact Wk.aggn | exact Wk.tupn)); first | done | fail) ?_ | refine LeH.skip ?_))⟩ (Nat.zero_le _) ?_
    intro z hz
    rcases Nat.lt_or_ge z M.length with hzl | hzg
    · obtain ⟨m, hm⟩ : ∃ a, M[z]? = some a := ⟨_, List.getElem?_eq_getElem hzl⟩
      unfold MV.enc
      (repeat' (first | (refine iS ?_; refine iMu ?_; refine S.mapU ?_) | refine svz ⟨fun b hq => ?_⟩ | refine sv1 ?_ | refine svs ⟨?_⟩ | refine svu ⟨fun u => ?_⟩ | (refine svg (fun hg => ?_) (fun hg => ?_) <;> try (exfalso; first | omega | contradiction)) | (refine svc (fun hc => ?_) (fun hc => ?_) <;> try (exfalso; first | omega | contradiction)) | refine sv2 ?_ | refine svh (fun hb => ?_) (fun hb => ?_) | refine svb (fun b => ?_) | refine sva ?_ | refine sv3 ?_))
      refine R2.T (v := .val (.bool false)) ?_ (hp := .vo rfl (pur_neqS (p := true) (sh := [true, true, true, true, false]) rfl rfl (by repeat (first | exact IEqS.nil | apply IEqS.i | apply IEqS.b)) rfl (by simp [Scl.eq])))
      (repeat' (first | (refine iS ?_; refine iMu ?_; refine S.mapU ?_) | refine svz ⟨fun b hq => ?_⟩ | refine sv1 ?_ | refine svs ⟨?_⟩ | refine svu ⟨fun u => ?_⟩ | (refine svg (fun hg => ?_) (fun hg => ?_) <;> try (exfalso; first | omega | contradiction)) | (refine svc (fun hc => ?_) (fun hc => ?_) <;> try (exfalso; first | omega | contradiction)) | refine sv2 ?_ | refine svh (fun hb => ?_) (fun hb => ?_) | refine svb (fun b => ?_) | refine sva ?_ | refine sv3 ?_))
      exact ⟨z + 1, hzl, ⟨rfl, (by repeat (first | exact LeT.nil | refine LeT.cons rfl ?_ | refine LeT.consw rfl (by (repeat (first | exact Wk.refl _ | exact Wk.nilr _ | exact Wk.nilm | apply Wk.aggc | apply Wk.tupc | exact Wk.aggn | exact Wk.tupn)); first | done | fail) ?_)), (by repeat (first | exact LeH.refl _ | exact LeH.nil _ | refine LeH.cons (by (fail_if_success (apply tkG)); (repeat (first | exact Tk.here | apply Tk.there)); first | done | fail) ?_ | refine LeH.boxw (by (fail_if_success (apply tkG)); (repeat (first | exact Tk.here | apply Tk.there)); first | done | fail) (by (repeat (first | exact Wk.refl _ | exact Wk.nilr _ | exact Wk.nilm | apply Wk.aggc | apply Wk.tupc | exact Wk.aggn | exact Wk.tupn)); first | done | fail) ?_ | refine LeH.skip ?_))⟩, by omega⟩
    · (repeat' (first | (refine iS ?_; refine iMu ?_; refine S.mapU ?_) | refine svz ⟨fun b hq => ?_⟩ | refine sv1 ?_ | refine svs ⟨?_⟩ | refine svu ⟨fun u => ?_⟩ | (refine svg (fun hg => ?_) (fun hg => ?_) <;> try (exfalso; first | omega | contradiction)) | (refine svc (fun hc => ?_) (fun hc => ?_) <;> try (exfalso; first | omega | contradiction)) | refine sv2 ?_ | refine svh (fun hb => ?_) (fun hb => ?_) | refine svb (fun b => ?_) | refine sva ?_ | refine sv3 ?_))
      refine S.call ?_; refine (r2 _).mono ?_; rintro r h' ⟨rfl, hh⟩; subst hh
      (repeat' (first | (refine iS ?_; refine iMu ?_; refine S.mapU ?_) | refine svz ⟨fun b hq => ?_⟩ | refine sv1 ?_ | refine svs ⟨?_⟩ | refine svu ⟨fun u => ?_⟩ | (refine svg (fun hg => ?_) (fun hg => ?_) <;> try (exfalso; first | omega | contradiction)) | (refine svc (fun hc => ?_) (fun hc => ?_) <;> try (exfalso; first | omega | contradiction)) | refine sv2 ?_ | refine svh (fun hb => ?_) (fun hb => ?_) | refine svb (fun b => ?_) | refine sva ?_ | refine sv3 ?_))
      refine S.call ?_; refine (r9 _).mono ?_; rintro r h' ⟨rfl, hh⟩; subst hh
      (repeat' (first | (refine iS ?_; refine iMu ?_; refine S.mapU ?_) | refine svz ⟨fun b hq => ?_⟩ | refine sv1 ?_ | refine svs ⟨?_⟩ | refine svu ⟨fun u => ?_⟩ | (refine svg (fun hg => ?_) (fun hg => ?_) <;> try (exfalso; first | omega | contradiction)) | (refine svc (fun hc => ?_) (fun hc => ?_) <;> try (exfalso; first | omega | contradiction)) | refine sv2 ?_ | refine svh (fun hb => ?_) (fun hb => ?_) | refine svb (fun b => ?_) | refine sva ?_ | refine sv3 ?_))
      refine S.call ?_; refine (awake_c _).mono ?_; rintro r h' ⟨rfl, hh⟩; subst hh
      (repeat' (first | (refine iS ?_; refine iMu ?_; refine S.mapU ?_) | refine svz ⟨fun b hq => ?_⟩ | refine sv1 ?_ | refine svs ⟨?_⟩ | refine svu ⟨fun u => ?_⟩ | (refine svg (fun hg => ?_) (fun hg => ?_) <;> try (exfalso; first | omega | contradiction)) | (refine svc (fun hc => ?_) (fun hc => ?_) <;> try (exfalso; first | omega | contradiction)) | refine sv2 ?_ | refine svh (fun hb => ?_) (fun hb => ?_) | refine svb (fun b => ?_) | refine sva ?_ | refine sv3 ?_))
      exact fin_r (h' := _) rfl
theorem resc_row : ∀ l, FitAll maxLen [.sl 5 (.fld 1 (.int .u8) (.fld 1 (.int .i8) (.fld 1 (.int .i8) (.fld 1 (.bool) (.fld 1 (.bool) (.nil)))))), .sl 1 (.int .u8)] l → ACalls Try.prog 3 l [] (fun r h' => r = .val (.bool true)) := by
  rintro l ⟨x, _, rfl, hx, y, _, rfl, hy, rfl⟩
  obtain ⟨ws, rfl, _, hw⟩ := wn_fit hx
  obtain ⟨g, rfl, _, hg⟩ := fit_ints hy
  exact resc_c ws g hw fun n hn => wf_u8 (hg n hn)
end Go.Proofs.Ytkpbbiknhhmfiaa
