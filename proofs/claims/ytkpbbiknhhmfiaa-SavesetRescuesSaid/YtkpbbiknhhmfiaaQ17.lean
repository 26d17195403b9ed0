/- The law's windows made. No condition. -/
import Derived.Test.YtkpbbiknhhmfiaaQ16
namespace Go.Proofs.Ytkpbbiknhhmfiaa
open Go Go.VM
attribute [local irreducible] PurV Pur Step RL W D ACalls Then InBlock Fini
set_option linter.unusedVariables false
set_option linter.unusedSimpArgs false
set_option maxHeartbeats 20000000
theorem hasT_id {N : Nat} {up : UP} (w : Wf N up) {m : Nat} (hm : m ≤ N) : hasT up (idF m) = true := by
  unfold hasT
  by_cases h : m = 0
  · subst h; rw [idF_0]; simp
  · obtain ⟨q, _, e⟩ := w.tot m (by omega) hm
    rw [e]; rfl
theorem hasT_no {N : Nat} {up : UP} (w : Wf N up) {m : Nat} (hm : N < m) (hN : m ≤ 1000) : lkF up (idF m) = none ∧ hasT up (idF m) = false := by
  have e : lkF up (idF m) = none := w.no (by omega) fun n h1 h2 e => by have := idF_inj hN (by omega) e; omega
  refine ⟨e, ?_⟩
  unfold hasT
  rw [e]
  simp [idF_ne1 (show 0 < m by omega) hN]
theorem pt_no (l : List WN) {m : Nat} (hm : l.length < m) (hN : m ≤ 100) : lkF (ptL l) (idF m) = none := by
  refine lkF_none.2 fun q hq => ?_
  rcases ptL_mem hq with rfl | ⟨j, w, h1, rfl⟩
  · exact (idF_ne1 (by omega) (by omega)).symm
  · intro e
    have e : idF (j + 1) = idF m := e
    have h2 := lt_of_some h1
    have := idF_inj (by omega) (by omega) e
    omega
theorem sv_no (l : List WN) {m : Nat} (hm : l.length < m) (hN : m ≤ 100) : idF m ∉ svL l := fun h => by
  obtain ⟨j, w, h1, _, _, e⟩ := svL_mem h
  have := lt_of_some h1
  have := idF_inj (by omega) (by omega) e
  omega
set_option maxRecDepth 100000 in
theorem made_c (l : List WN) (h : Heap) (hl : l.length ≤ 12) (hok : ∀ w ∈ l, w.Ok) :
    ACalls Try.prog 9 [.ro 5 (l.map WN.enc)] h (fun r h' => ∃ k, KI l.length k (upL l) ∧ r = .tup [encT k (upL l), encP (ptL l), encS (stS (svL l)), encU (upL l), .ro 1 (ints .u32 (svL l)), .val (.bool (true))] ∧ h' = h) := by
  have n1 := fun h => new_c h
  have p1 := fun h => pnew_c 64 64 h (by decide) (by decide)
  have ac := fun k up id p h a b c d e f g i j m o => add_c k up id p h a b c d e f g i j m o
  have pc := fun t id b0 h a b c d e f g i j m o => pset_c t id b0 h a b c d e f g i j m o
  have cc := fun t id h a b c d e => change_c t 1 id true h a b c d e
  unfold encT encP encS at *
  refine ACalls.intro Try.func9 rfl Try.ntmps9 Try.results9 (Nat.le_of_ble_eq_true rfl) ?_
  (repeat' (first | (refine iS ?_; refine iMu ?_; refine S.mapU ?_) | refine svz ⟨fun b hq => ?_⟩ | refine sv1 ?_ | refine svs ⟨?_⟩ | refine svu ⟨fun u => ?_⟩ | (refine svg (fun hg => ?_) (fun hg => ?_) <;> try (exfalso; first | omega | contradiction)) | (refine svc (fun hc => ?_) (fun hc => ?_) <;> try (exfalso; first | omega | contradiction)) | refine sv2 ?_ | refine svh (fun hb => ?_) (fun hb => ?_) | refine svb (fun b => ?_) | refine sva ?_ | refine sv3 ?_))
  refine S.call ?_; refine (n1 _).mono ?_; rintro r h' ⟨rfl, hh⟩; subst hh
  (repeat' (first | (refine iS ?_; refine iMu ?_; refine S.mapU ?_) | refine svz ⟨fun b hq => ?_⟩ | refine sv1 ?_ | refine svs ⟨?_⟩ | refine svu ⟨fun u => ?_⟩ | (refine svg (fun hg => ?_) (fun hg => ?_) <;> try (exfalso; first | omega | contradiction)) | (refine svc (fun hc => ?_) (fun hc => ?_) <;> try (exfalso; first | omega | contradiction)) | refine sv2 ?_ | refine svh (fun hb => ?_) (fun hb => ?_) | refine svb (fun b => ?_) | refine sva ?_ | refine sv3 ?_))
  refine S.call ?_; refine (p1 _).mono ?_; rintro r h' ⟨rfl, hh⟩; subst hh
  (repeat' (first | (refine iS ?_; refine iMu ?_; refine S.mapU ?_) | refine svz ⟨fun b hq => ?_⟩ | refine sv1 ?_ | refine svs ⟨?_⟩ | refine svu ⟨fun u => ?_⟩ | (refine svg (fun hg => ?_) (fun hg => ?_) <;> try (exfalso; first | omega | contradiction)) | (refine svc (fun hc => ?_) (fun hc => ?_) <;> try (exfalso; first | omega | contradiction)) | refine sv2 ?_ | refine svh (fun hb => ?_) (fun hb => ?_) | refine svb (fun b => ?_) | refine sva ?_ | refine sv3 ?_))
  rename_i b2 b3 b4 b8 b9
  revert b; intro b11
  refine W.nil_ 2 85 ?_
  refine W.nil_ 1 43 ?_
  refine W.loop (J := fun x : Nat × SVT × Value × Value => ⟨120, [(36, .val (.int .i64 ((x.1 : Nat)))), (13, .val x.2.2.2), (12, .val x.2.2.1), (35, .val (.int .i64 ((l.length : Nat)))), (34, .ro 5 (l.map WN.enc)), (11, .val (.pointer (some ⟨b11, 0, none⟩))), (9, .val (.pointer (some ⟨b9, 0, none⟩))), (8, .val (.pointer (some ⟨b8, 0, none⟩))), (4, .val (.pointer (some ⟨b4, 0, none⟩))), (3, .val (.pointer (some ⟨b3, 0, none⟩))), (2, .val (.pointer (some ⟨b2, 0, none⟩))), (5, .val (.slice none 0 0)), (6, .val (.slice none 0 0)), (7, .val (.bool (false)))],
      .own x.2.2.2 1 (ints .u32 (svL (l.take x.1))) 43 :: .own x.2.2.1 2 ((upL (l.take x.1)).map vPr) 85 :: .box b11 [mapV .i64 vIds (stS (svL (l.take x.1)))] 34 :: .box b9 [mapV .u32 vBox (ptL (l.take x.1))] 31 :: .box b8 [mapV .u32 vIds x.2.1, mapV .u32 (vI .u32) (upL (l.take x.1))] 28 :: .box b4 [.val (.map none)] 34 :: .box b3 [.val (.map none)] 31 :: .box b2 [.val (.map none), .val (.map none)] 28 :: h⟩)
    (Φ := fun x => x.1 ≤ l.length ∧ KI x.1 x.2.1 (upL (l.take x.1))) (μ := fun x => l.length - x.1) (0, [], .slice none 0 0, .slice none 0 0) ?_ ⟨Nat.zero_le _, ⟨by simp, by simp, by simp, fun id p h => by cases h⟩⟩ ?_
  · dsimp only
    rw [List.take_zero, show svL [] = [] from rfl, show upL [] = [] from rfl, show ptL [] = [(1, rootB 64 64)] from rfl, show stS [] = [] from rfl]
    exact ⟨rfl, (by repeat (first | exact LeT.nil | refine LeT.cons rfl ?_ | refine LeT.consw rfl (by (repeat (first | exact Wk.refl _ | exact Wk.nilr _ | exact Wk.nilm | apply Wk.aggc | apply Wk.tupc | exact Wk.aggn | exact Wk.tupn)); first | done | fail) ?_)), (by repeat (first | exact LeH.refl _ | exact LeH.nil _ | refine LeH.cons (by (fail_if_success (apply tkG)); (repeat (first | exact Tk.here | apply Tk.there)); first | done | fail) ?_ | refine LeH.boxw (by (fail_if_success (apply tkG)); (repeat (first | exact Tk.here | apply Tk.there)); first | done | fail) (by (repeat (first | exact Wk.refl _ | exact Wk.nilr _ | exact Wk.nilm | apply Wk.aggc | apply Wk.tupc | exact Wk.aggn | exact Wk.tupn)); first | done | fail) ?_ | refine LeH.skip ?_))⟩
  rintro ⟨i, k, v1, v2⟩ ⟨hi, hk⟩
  dsimp only at hi hk ⊢
  rcases Nat.lt_or_ge i l.length with hlt | hge
  · obtain ⟨w, ha⟩ : ∃ a, l[i]? = some a := ⟨_, List.getElem?_eq_getElem hlt⟩
    have hw := hok w (List.mem_of_getElem? ha)
    have htl : (l.take i).length = i := by rw [List.length_take]; omega
    have htk : l.take (i + 1) = l.take i ++ [w] := by rw [List.take_add_one, ha]; rfl
    have su := upL_snoc (l.take i) w
    have sp := ptL_snoc (l.take i) w
    have ss := svL_snoc (l.take i) w
    rw [← htk, htl] at su sp ss
    have hwf := upL_wf (l.take i) (by omega)
    rw [htl] at hwf
    have i1 : ∀ h, ACalls Try.prog _ [.val (.int .i64 ((i : Int) + 1))] h (fun r h' => r = .val (.int .u32 (idF (i + 1))) ∧ h' = h) := fun h => by have := id_c (i + 1) h (by omega); rwa [show ((i + 1 : Nat) : Int) = (i : Int) + 1 by omega] at this
    have hpi := parI_le w i
    have i2 : ∀ h, ACalls Try.prog _ [.val (.int .i64 (w.i % ((i : Int) + 1)))] h (fun r h' => r = .val (.int .u32 (idF (parI w i))) ∧ h' = h) := fun h => by have := id_c (parI w i) h (by omega); rwa [parI_eq] at this
    have hb1 := idF_bd (n := i + 1) (by omega)
    have hn1 := idF_ne1 (n := i + 1) (by omega) (by omega)
    have hno := hasT_no hwf (m := i + 1) (by omega) (by omega)
    have ac := fun h => ac k (upL (l.take i)) (idF (i + 1)) (idF (parI w i)) h (by omega) (by omega) (ic_id (by omega) (by omega)) hno.2 (hasT_id hwf hpi) (by rw [upL_len, htl]; omega) hk.nd hwf.nd (fun p hp => by have := hk.len p hp; omega) (by have := ofs_len hk.len (idF (parI w i)); omega) (by have := hk.cnt; omega)
    have pc := fun h => pc (ptL (l.take i)) (idF (i + 1)) ⟨w.x, w.y, 5, 5, w.m, 0⟩ h (by omega) (by omega) hn1 (ic_id (by omega) (by omega)) (by have := hw.x; dsimp only; omega) (by have := hw.y; dsimp only; omega) (by dsimp only; omega) (by dsimp only; omega) (by dsimp only; omega) (by unfold ptL; simp) (by rw [ptL_len, htl]; omega)
    have hk2 := hk.add (idF (i + 1)) (idF (parI w i))
    rw [putF_new _ (not_key hno.1), ← su] at ac hk2
    rw [putF_new _ (not_key (pt_no (l.take i) (by omega) (by omega))), ← sp] at pc
    have hsl : (svL (l.take i)).length ≤ 12 := by have := svL_len (l.take i); omega
    have hul : (upL (l.take i)).length ≤ 12 := by rw [upL_len]; omega
    generalize putF k (idF (parI w i)) (ofS k (idF (parI w i)) ++ [idF (i + 1)]) = k2 at *
    unfold vBox at pc
    dsimp only at pc
    obtain ⟨hwi, hwx, hwy⟩ := hw
    unfold WN.enc
    (repeat' (first | (refine iS ?_; refine iMu ?_; refine S.mapU ?_) | refine svz ⟨fun b hq => ?_⟩ | refine sv1 ?_ | refine svs ⟨?_⟩ | refine svu ⟨fun u => ?_⟩ | (refine svg (fun hg => ?_) (fun hg => ?_) <;> try (exfalso; first | omega | contradiction)) | (refine svc (fun hc => ?_) (fun hc => ?_) <;> try (exfalso; first | omega | contradiction)) | refine sv2 ?_ | refine svh (fun hb => ?_) (fun hb => ?_) | refine svb (fun b => ?_) | refine sva ?_ | refine sv3 ?_))
    refine R2.C (i1 _) ?_
    (repeat' (first | (refine iS ?_; refine iMu ?_; refine S.mapU ?_) | refine svz ⟨fun b hq => ?_⟩ | refine sv1 ?_ | refine svs ⟨?_⟩ | refine svu ⟨fun u => ?_⟩ | (refine svg (fun hg => ?_) (fun hg => ?_) <;> try (exfalso; first | omega | contradiction)) | (refine svc (fun hc => ?_) (fun hc => ?_) <;> try (exfalso; first | omega | contradiction)) | refine sv2 ?_ | refine svh (fun hb => ?_) (fun hb => ?_) | refine svb (fun b => ?_) | refine sva ?_ | refine sv3 ?_))
    refine R2.C (i2 _) ?_
    (repeat' (first | (refine iS ?_; refine iMu ?_; refine S.mapU ?_) | refine svz ⟨fun b hq => ?_⟩ | refine sv1 ?_ | refine svs ⟨?_⟩ | refine svu ⟨fun u => ?_⟩ | (refine svg (fun hg => ?_) (fun hg => ?_) <;> try (exfalso; first | omega | contradiction)) | (refine svc (fun hc => ?_) (fun hc => ?_) <;> try (exfalso; first | omega | contradiction)) | refine sv2 ?_ | refine svh (fun hb => ?_) (fun hb => ?_) | refine svb (fun b => ?_) | refine sva ?_ | refine sv3 ?_))
    revert b; intro b15
    refine S.call ?_; refine (ac _).mono ?_; rintro r h' ⟨rfl, hh⟩; subst hh
    (repeat' (first | (refine iS ?_; refine iMu ?_; refine S.mapU ?_) | refine svz ⟨fun b hq => ?_⟩ | refine sv1 ?_ | refine svs ⟨?_⟩ | refine svu ⟨fun u => ?_⟩ | (refine svg (fun hg => ?_) (fun hg => ?_) <;> try (exfalso; first | omega | contradiction)) | (refine svc (fun hc => ?_) (fun hc => ?_) <;> try (exfalso; first | omega | contradiction)) | refine sv2 ?_ | refine svh (fun hb => ?_) (fun hb => ?_) | refine svb (fun b => ?_) | refine sva ?_ | refine sv3 ?_))
    revert b; intro b18
    refine S.call ?_; refine (pc _).mono ?_; rintro r h' ⟨rfl, hh⟩; subst hh
    (repeat' ((fail_if_success (refine drg ?_)); (first | (refine iS ?_; refine iMu ?_; refine S.mapU ?_) | refine svz ⟨fun b hq => ?_⟩ | refine sv1 ?_ | refine svs ⟨?_⟩ | refine svu ⟨fun u => ?_⟩ | (refine svg (fun hg => ?_) (fun hg => ?_) <;> try (exfalso; first | omega | contradiction)) | (refine svc (fun hc => ?_) (fun hc => ?_) <;> try (exfalso; first | omega | contradiction)) | refine sv2 ?_ | refine svh (fun hb => ?_) (fun hb => ?_) | refine svb (fun b => ?_) | refine sva ?_ | refine sv3 ?_)))
    revert b; intro b20
    refine W.dr (.ro (.ro (.ro (.ro (.rw (.ro (.done _))))))) ?_
    (repeat' (first | (refine iR2 ?_; refine r2b ?_; refine R2.one ?_) | (refine iS ?_; refine iN ?_; refine S.build1r ?_) | (refine iS ?_; refine iMu ?_; refine S.mapU ?_) | refine svz ⟨fun b hq => ?_⟩ | refine sv1 ?_ | refine svs ⟨?_⟩ | refine svu ⟨fun u => ?_⟩ | (refine svg (fun hg => ?_) (fun hg => ?_) <;> try (exfalso; first | omega | contradiction)) | (refine svc (fun hc => ?_) (fun hc => ?_) <;> try (exfalso; first | omega | contradiction)) | refine sv2 ?_ | refine svh (fun hb => ?_) (fun hb => ?_) | refine svb (fun b => ?_) | refine sva ?_ | refine sv3 ?_))
    refine R2.T (v := .agg [.val (.int .u32 (idF (i + 1))), .val (.int .u32 (idF (parI w i)))]) ?_ (hp := .l rfl (pur_buildarr (by repeat (first | exact EvalP.nil | (apply EvalP.cons; rfl))) rfl).pur)
    (repeat' (first | (refine iR2 ?_; refine r2b ?_; refine R2.one ?_) | (refine iS ?_; refine iN ?_; refine S.build1r ?_) | (refine iS ?_; refine iMu ?_; refine S.mapU ?_) | refine svz ⟨fun b hq => ?_⟩ | refine sv1 ?_ | refine svs ⟨?_⟩ | refine svu ⟨fun u => ?_⟩ | (refine svg (fun hg => ?_) (fun hg => ?_) <;> try (exfalso; first | omega | contradiction)) | (refine svc (fun hc => ?_) (fun hc => ?_) <;> try (exfalso; first | omega | contradiction)) | refine sv2 ?_ | refine svh (fun hb => ?_) (fun hb => ?_) | refine svb (fun b => ?_) | refine sva ?_ | refine sv3 ?_))
    have hsv : svW (w, i) = (w.s && decide ((i + 1) % 2 = 1)) := rfl
    cases hws : w.s with
    | false =>
      rw [hsv, hws, Bool.false_and, if_neg (by decide), List.append_nil] at ss
      (repeat' (first | (refine iS ?_; refine iMu ?_; refine S.mapU ?_) | refine svz ⟨fun b hq => ?_⟩ | refine sv1 ?_ | refine svs ⟨?_⟩ | refine svu ⟨fun u => ?_⟩ | (refine svg (fun hg => ?_) (fun hg => ?_) <;> try (exfalso; first | omega | contradiction)) | (refine svc (fun hc => ?_) (fun hc => ?_) <;> try (exfalso; first | omega | contradiction)) | refine sv2 ?_ | refine svh (fun hb => ?_) (fun hb => ?_) | refine svb (fun b => ?_) | refine sva ?_ | refine sv3 ?_))
      exact ⟨(i + 1, k2, u, v2), ⟨hlt, hk2⟩, by dsimp only; rw [su, List.map_append, ss]; exact ⟨rfl, (by repeat (first | exact LeT.nil | refine LeT.cons rfl ?_ | refine LeT.consw rfl (by (repeat (first | exact Wk.refl _ | exact Wk.nilr _ | exact Wk.nilm | apply Wk.aggc | apply Wk.tupc | exact Wk.aggn | exact Wk.tupn)); first | done | fail) ?_)), (by repeat (first | exact LeH.refl _ | exact LeH.nil _ | refine LeH.cons (by (fail_if_success (apply tkG)); (repeat (first | exact Tk.here | apply Tk.there)); first | done | fail) ?_ | refine LeH.boxw (by (fail_if_success (apply tkG)); (repeat (first | exact Tk.here | apply Tk.there)); first | done | fail) (by (repeat (first | exact Wk.refl _ | exact Wk.nilr _ | exact Wk.nilm | apply Wk.aggc | apply Wk.tupc | exact Wk.aggn | exact Wk.tupn)); first | done | fail) ?_ | refine LeH.skip ?_))⟩, by dsimp only; omega⟩
    | true =>
      rw [hsv, hws, Bool.true_and] at ss
      by_cases hpar : (i + 1) % 2 = 1
      · revert u; intro u0
        rw [decide_eq_true hpar, if_pos rfl] at ss
        have hp2 : ((i : Int) + 1) % 2 = 1 := by omega
        have hsr := svL_srt (l.take (i + 1)) (by rw [List.length_take]; omega)
        rw [ss] at hsr
        have cc := fun h => cc (stS (svL (l.take i))) (idF (i + 1)) h (by omega) (by omega) (stS_nodup _) (stS_lens (by omega)) (by have := stS_len (svL (l.take i)); omega)
        rw [ch_stS (sv_no (l.take i) (by omega) (by omega)) (sch_id hpar (by omega)) (by omega) hsr, ← ss] at cc
        (repeat' (first | (refine iS ?_; refine iMu ?_; refine S.mapU ?_) | refine svz ⟨fun b hq => ?_⟩ | refine sv1 ?_ | refine svs ⟨?_⟩ | refine svu ⟨fun u => ?_⟩ | (refine svg (fun hg => ?_) (fun hg => ?_) <;> try (exfalso; first | omega | contradiction)) | (refine svc (fun hc => ?_) (fun hc => ?_) <;> try (exfalso; first | omega | contradiction)) | refine sv2 ?_ | refine svh (fun hb => ?_) (fun hb => ?_) | refine svb (fun b => ?_) | refine sva ?_ | refine sv3 ?_))
        refine S.call ?_; refine (cc _).mono ?_; rintro r h' ⟨rfl, hh⟩; subst hh
        (repeat' ((fail_if_success (refine drg ?_)); (first | (refine iS ?_; refine iMu ?_; refine S.mapU ?_) | refine svz ⟨fun b hq => ?_⟩ | refine sv1 ?_ | refine svs ⟨?_⟩ | refine svu ⟨fun u => ?_⟩ | (refine svg (fun hg => ?_) (fun hg => ?_) <;> try (exfalso; first | omega | contradiction)) | (refine svc (fun hc => ?_) (fun hc => ?_) <;> try (exfalso; first | omega | contradiction)) | refine sv2 ?_ | refine svh (fun hb => ?_) (fun hb => ?_) | refine svb (fun b => ?_) | refine sva ?_ | refine sv3 ?_)))
        revert b; intro b22
        refine W.le (s' := ⟨120, [(22, .val (.pointer (some ⟨b22, 0, none⟩))), (16, .val (.int .u32 (idF (i + 1)))), (36, .val (.int .i64 (i))), (13, .val v2), (12, .val u0), (35, .val (.int .i64 ((l.length : Nat)))), (34, .ro 5 (l.map WN.enc)), (11, .val (.pointer (some ⟨b11, 0, none⟩))), (9, .val (.pointer (some ⟨b9, 0, none⟩))), (8, .val (.pointer (some ⟨b8, 0, none⟩))), (4, .val (.pointer (some ⟨b4, 0, none⟩))), (3, .val (.pointer (some ⟨b3, 0, none⟩))), (2, .val (.pointer (some ⟨b2, 0, none⟩))), (5, .val (.slice none 0 0)), (6, .val (.slice none 0 0)), (7, .val (.bool (false)))], .box b22 [mapV .i64 vIds (stS (svL (l.take (i + 1))))] 34 :: .own v2 1 (ints .u32 (svL (l.take i))) 43 :: .box b11 [mapV .i64 vIds (stS (svL (l.take i)))] 34 :: .own u0 2 ((upL (l.take i)).map vPr ++ [vPr (idF (i + 1), idF (parI w i))]) 85 :: .box b9 [mapV .u32 vBox (ptL (l.take (i + 1)))] 31 :: .box b8 [mapV .u32 vIds k2, mapV .u32 (vI .u32) (upL (l.take (i + 1)))] 28 :: .box b4 [.val (.map none)] 34 :: .box b3 [.val (.map none)] 31 :: .box b2 [.val (.map none), .val (.map none)] 28 :: h⟩) ⟨rfl, (by repeat (first | exact LeT.nil | refine LeT.cons rfl ?_ | refine LeT.consw rfl (by (repeat (first | exact Wk.refl _ | exact Wk.nilr _ | exact Wk.nilm | apply Wk.aggc | apply Wk.tupc | exact Wk.aggn | exact Wk.tupn)); first | done | fail) ?_)), (by repeat (first | exact LeH.refl _ | exact LeH.nil _ | refine LeH.cons (by (fail_if_success (apply tkG)); (repeat (first | exact Tk.here | apply Tk.there)); first | done | fail) ?_ | refine LeH.boxw (by (fail_if_success (apply tkG)); (repeat (first | exact Tk.here | apply Tk.there)); first | done | fail) (by (repeat (first | exact Wk.refl _ | exact Wk.nilr _ | exact Wk.nilm | apply Wk.aggc | apply Wk.tupc | exact Wk.aggn | exact Wk.tupn)); first | done | fail) ?_ | refine LeH.skip ?_))⟩ ?_
        refine W.dr (.ro (.rw (.done _))) ?_
        (repeat' (first | (refine iR2 ?_; refine r2b ?_; refine R2.one ?_) | (refine iS ?_; refine iN ?_; refine S.build1r ?_) | (refine iS ?_; refine iMu ?_; refine S.mapU ?_) | refine svz ⟨fun b hq => ?_⟩ | refine sv1 ?_ | refine svs ⟨?_⟩ | refine svu ⟨fun u => ?_⟩ | (refine svg (fun hg => ?_) (fun hg => ?_) <;> try (exfalso; first | omega | contradiction)) | (refine svc (fun hc => ?_) (fun hc => ?_) <;> try (exfalso; first | omega | contradiction)) | refine sv2 ?_ | refine svh (fun hb => ?_) (fun hb => ?_) | refine svb (fun b => ?_) | refine sva ?_ | refine sv3 ?_))
        exact ⟨(i + 1, k2, u0, u), ⟨hlt, hk2⟩, by dsimp only; rw [su, List.map_append, ss, show ints .u32 (svL (l.take i) ++ [idF (i + 1)]) = ints .u32 (svL (l.take i)) ++ [.val (.int .u32 (idF (i + 1)))] by simp [ints]]; exact ⟨rfl, (by repeat (first | exact LeT.nil | refine LeT.cons rfl ?_ | refine LeT.consw rfl (by (repeat (first | exact Wk.refl _ | exact Wk.nilr _ | exact Wk.nilm | apply Wk.aggc | apply Wk.tupc | exact Wk.aggn | exact Wk.tupn)); first | done | fail) ?_)), (by repeat (first | exact LeH.refl _ | exact LeH.nil _ | refine LeH.cons (by (fail_if_success (apply tkG)); (repeat (first | exact Tk.here | apply Tk.there)); first | done | fail) ?_ | refine LeH.boxw (by (fail_if_success (apply tkG)); (repeat (first | exact Tk.here | apply Tk.there)); first | done | fail) (by (repeat (first | exact Wk.refl _ | exact Wk.nilr _ | exact Wk.nilm | apply Wk.aggc | apply Wk.tupc | exact Wk.aggn | exact Wk.tupn)); first | done | fail) ?_ | refine LeH.skip ?_))⟩, by dsimp only; omega⟩
      · rw [decide_eq_false hpar, if_neg (by decide), List.append_nil] at ss
        have hp2 : ¬ ((i : Int) + 1) % 2 = 1 := by omega
        (repeat' (first | (refine iS ?_; refine iMu ?_; refine S.mapU ?_) | refine svz ⟨fun b hq => ?_⟩ | refine sv1 ?_ | refine svs ⟨?_⟩ | refine svu ⟨fun u => ?_⟩ | (refine svg (fun hg => ?_) (fun hg => ?_) <;> try (exfalso; first | omega | contradiction)) | (refine svc (fun hc => ?_) (fun hc => ?_) <;> try (exfalso; first | omega | contradiction)) | refine sv2 ?_ | refine svh (fun hb => ?_) (fun hb => ?_) | refine svb (fun b => ?_) | refine sva ?_ | refine sv3 ?_))
        exact ⟨(i + 1, k2, u, v2), ⟨hlt, hk2⟩, by dsimp only; rw [su, List.map_append, ss]; exact ⟨rfl, (by repeat (first | exact LeT.nil | refine LeT.cons rfl ?_ | refine LeT.consw rfl (by (repeat (first | exact Wk.refl _ | exact Wk.nilr _ | exact Wk.nilm | apply Wk.aggc | apply Wk.tupc | exact Wk.aggn | exact Wk.tupn)); first | done | fail) ?_)), (by repeat (first | exact LeH.refl _ | exact LeH.nil _ | refine LeH.cons (by (fail_if_success (apply tkG)); (repeat (first | exact Tk.here | apply Tk.there)); first | done | fail) ?_ | refine LeH.boxw (by (fail_if_success (apply tkG)); (repeat (first | exact Tk.here | apply Tk.there)); first | done | fail) (by (repeat (first | exact Wk.refl _ | exact Wk.nilr _ | exact Wk.nilm | apply Wk.aggc | apply Wk.tupc | exact Wk.aggn | exact Wk.tupn)); first | done | fail) ?_ | refine LeH.skip ?_))⟩, by dsimp only; omega⟩
  · rw [List.take_of_length_le hge]
    rw [List.take_of_length_le hge] at hk
    have e : i = l.length := by omega
    subst e
    (repeat' ((fail_if_success (refine drg ?_)); (first | (refine iS ?_; refine iMu ?_; refine S.mapU ?_) | refine svz ⟨fun b hq => ?_⟩ | refine sv1 ?_ | refine svs ⟨?_⟩ | refine svu ⟨fun u => ?_⟩ | (refine svg (fun hg => ?_) (fun hg => ?_) <;> try (exfalso; first | omega | contradiction)) | (refine svc (fun hc => ?_) (fun hc => ?_) <;> try (exfalso; first | omega | contradiction)) | refine sv2 ?_ | refine svh (fun hb => ?_) (fun hb => ?_) | refine svb (fun b => ?_) | refine sva ?_ | refine sv3 ?_)))
    refine W.frz (v := v2) (by (fail_if_success (apply tkG)); (repeat (first | exact Tk.here | apply Tk.there)); first | done | fail) (by repeat' (first | apply FrzT.cons | exact FrzT.rest _ | exact Frz.hit | apply Frz.aggc | apply Frz.tupc | exact Frz.aggn | exact Frz.tupn | exact Frz.keep _)) (by repeat' (first | apply FrzH.box | apply FrzH.keep | exact FrzH.rest _ | exact Frz.hit | apply Frz.aggc | apply Frz.tupc | exact Frz.aggn | exact Frz.tupn | exact Frz.keep _)) ?_
    refine W.frz (v := v1) (by (fail_if_success (apply tkG)); (repeat (first | exact Tk.here | apply Tk.there)); first | done | fail) (by repeat' (first | apply FrzT.cons | exact FrzT.rest _ | exact Frz.hit | apply Frz.aggc | apply Frz.tupc | exact Frz.aggn | exact Frz.tupn | exact Frz.keep _)) (by repeat' (first | apply FrzH.box | apply FrzH.keep | exact FrzH.rest _ | exact Frz.hit | apply Frz.aggc | apply Frz.tupc | exact Frz.aggn | exact Frz.tupn | exact Frz.keep _)) ?_
    refine W.dr (.ro (.ro (.ro (.done _)))) ?_
    (repeat' (first | (refine iS ?_; refine iMu ?_; refine S.mapU ?_) | refine svz ⟨fun b hq => ?_⟩ | refine sv1 ?_ | refine svs ⟨?_⟩ | refine svu ⟨fun u => ?_⟩ | (refine svg (fun hg => ?_) (fun hg => ?_) <;> try (exfalso; first | omega | contradiction)) | (refine svc (fun hc => ?_) (fun hc => ?_) <;> try (exfalso; first | omega | contradiction)) | refine sv2 ?_ | refine svh (fun hb => ?_) (fun hb => ?_) | refine svb (fun b => ?_) | refine sva ?_ | refine sv3 ?_))
    exact fin_r (h' := h) ⟨k, hk, rfl, rfl⟩
end Go.Proofs.Ytkpbbiknhhmfiaa
