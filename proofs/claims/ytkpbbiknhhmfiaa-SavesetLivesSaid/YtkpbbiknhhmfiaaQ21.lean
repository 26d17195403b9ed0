/- Trees: twin with two lists owned, Move. No condition. -/
import Derived.Test.YtkpbbiknhhmfiaaQ16
namespace Go.Proofs.Ytkpbbiknhhmfiaa
open Go Go.VM
attribute [local irreducible] PurV Pur Step RL W D ACalls Then InBlock Fini
set_option linter.unusedVariables false
set_option linter.unusedSimpArgs false
set_option maxHeartbeats 20000000
def entW (k0 : Int) (v0 : Value) (k1 : Int) (v1 : Value) (p : Int × List Int) : Int × AV := (p.1, if p.1 = k0 then .val v0 else if p.1 = k1 then .val v1 else vIds p.2)
theorem entW_keys {k0 k1 : Int} {v0 v1 : Value} (t : SVT) : (t.map (entW k0 v0 k1 v1)).map (·.1) = t.map (·.1) := by rw [List.map_map]; rfl
theorem entW_miss {k0 k1 c : Int} {t : SVT} {l : List Int} (h0 : ¬ c = k0) (h1 : ¬ c = k1) (v0 v1 : Value) : (t ++ [(c, l)]).map (entW k0 v0 k1 v1) = t.map (entW k0 v0 k1 v1) ++ [(c, .ro 1 (ints .u32 l))] := by
  rw [List.map_append, List.map_singleton]
  unfold entW vIds
  rw [if_neg h0, if_neg h1]
theorem entW_hit0 {k0 k1 c : Int} {t : SVT} {l : List Int} {w : Value} (hc : c = k0) (hn : c ∉ t.map (·.1)) (v0 v1 : Value) : (t ++ [(c, l)]).map (entW k0 w k1 v1) = t.map (entW k0 v0 k1 v1) ++ [(c, .val w)] := by
  rw [List.map_append, List.map_singleton]
  congr 1
  · refine List.map_congr_left fun p hp => ?_
    have : p.1 ≠ k0 := fun e => hn (by rw [hc, ← e]; exact List.mem_map.2 ⟨p, hp, rfl⟩)
    unfold entW
    rw [if_neg this, if_neg this]
  · unfold entW; rw [if_pos hc]
theorem entW_hit1 {k0 k1 c : Int} {t : SVT} {l : List Int} {w : Value} (h0 : ¬ c = k0) (hc : c = k1) (hn : c ∉ t.map (·.1)) (v0 v1 : Value) : (t ++ [(c, l)]).map (entW k0 v0 k1 w) = t.map (entW k0 v0 k1 v1) ++ [(c, .val w)] := by
  rw [List.map_append, List.map_singleton]
  congr 1
  · refine List.map_congr_left fun p hp => ?_
    have : p.1 ≠ k1 := fun e => hn (by rw [hc, ← e]; exact List.mem_map.2 ⟨p, hp, rfl⟩)
    unfold entW
    rw [if_neg this, if_neg this]
  · unfold entW; rw [if_neg h0, if_pos hc]
set_option maxRecDepth 100000 in
theorem twin2_c (k : SVT) (up : UP) (k0 k1 : Int) (h : Heap) (h01 : k0 ≠ k1) (hn : (k.map (·.1)).Nodup) (hu : (up.map (·.1)).Nodup) (hl : ∀ p ∈ k, p.2.length ≤ 1000000) (hkl : k.length ≤ 1000000) :
    ACalls Try.prog 43 [encT k up] h (fun r h' => ∃ bk bu v0 v1, r = .agg [.val (.map (some bk)), .val (.map (some bu))] ∧ h' = mpV bk .u32 idA (k.map (entW k0 v0 k1 v1)) :: mpV bu .u32 (vI .u32) up :: .own v0 1 (ints .u32 (ofS k k0)) 43 :: .own v1 1 (ints .u32 (ofS k k1)) 43 :: h) := by
  unfold encT
  refine ACalls.intro Try.func43 rfl Try.ntmps43 Try.results43 (Nat.le_of_ble_eq_true rfl) ?_
  (repeat' (first | (refine iS ?_; refine iMu ?_; refine S.mapU ?_) | refine svz ⟨fun b hq => ?_⟩ | refine sv1 ?_ | refine svs ⟨?_⟩ | refine svu ⟨fun u => ?_⟩ | (refine svg (fun hg => ?_) (fun hg => ?_) <;> try (exfalso; first | omega | contradiction)) | (refine svc (fun hc => ?_) (fun hc => ?_) <;> try (exfalso; first | omega | contradiction)) | refine sv2 ?_ | refine svh (fun hb => ?_) (fun hb => ?_) | refine svb (fun b => ?_) | refine sva ?_ | refine sv3 ?_))
  revert b; intro b2
  revert b; intro b1
  refine S.mkm0 idA (fun bk => ?_)
  (repeat' (first | (refine iS ?_; refine iMu ?_; refine S.mapU ?_) | refine svz ⟨fun b hq => ?_⟩ | refine sv1 ?_ | refine svs ⟨?_⟩ | refine svu ⟨fun u => ?_⟩ | (refine svg (fun hg => ?_) (fun hg => ?_) <;> try (exfalso; first | omega | contradiction)) | (refine svc (fun hc => ?_) (fun hc => ?_) <;> try (exfalso; first | omega | contradiction)) | refine sv2 ?_ | refine svh (fun hb => ?_) (fun hb => ?_) | refine svb (fun b => ?_) | refine sva ?_ | refine sv3 ?_))
  refine S.mkm0 (vI .u32) (fun bu => ?_)
  (repeat' (first | (refine iS ?_; refine iMu ?_; refine S.mapU ?_) | refine svz ⟨fun b hq => ?_⟩ | refine sv1 ?_ | refine svs ⟨?_⟩ | refine svu ⟨fun u => ?_⟩ | (refine svg (fun hg => ?_) (fun hg => ?_) <;> try (exfalso; first | omega | contradiction)) | (refine svc (fun hc => ?_) (fun hc => ?_) <;> try (exfalso; first | omega | contradiction)) | refine sv2 ?_ | refine svh (fun hb => ?_) (fun hb => ?_) | refine svb (fun b => ?_) | refine sva ?_ | refine sv3 ?_))
  revert b; intro b3
  have cp := cpy_c bu up (.box b3 [.val (.map (some bk)), .val (.map (some bu))] 28 :: mpV bk .u32 idA ([] : List (Int × AV)) :: .box b2 [.val (.map none), .val (.map none)] 28 :: .box b1 [mapV .u32 vIds k, mapV .u32 (vI .u32) up] 28 :: h) hu
  refine Step.le (s' := ⟨28, [(12, mapV .u32 (vI .u32) up), (10, .val (.map (some bu))), (3, .val (.pointer (some ⟨b3, 0, none⟩))), (2, .val (.pointer (some ⟨b2, 0, none⟩))), (1, .val (.pointer (some ⟨b1, 0, none⟩)))], mpV bu .u32 (vI .u32) ([] : UP) :: .box b3 [.val (.map (some bk)), .val (.map (some bu))] 28 :: mpV bk .u32 idA ([] : List (Int × AV)) :: .box b2 [.val (.map none), .val (.map none)] 28 :: .box b1 [mapV .u32 vIds k, mapV .u32 (vI .u32) up] 28 :: h⟩) ⟨rfl, (by repeat (first | exact LeT.nil | refine LeT.cons rfl ?_ | refine LeT.consw rfl (by (repeat (first | exact Wk.refl _ | exact Wk.nilr _ | exact Wk.nilm | apply Wk.aggc | apply Wk.tupc | exact Wk.aggn | exact Wk.tupn)); first | done | fail) ?_)), (by repeat (first | exact LeH.refl _ | exact LeH.nil _ | refine LeH.cons (by (fail_if_success (apply tkG)); (repeat (first | exact Tk.here | apply Tk.there)); first | done | fail) ?_ | refine LeH.boxw (by (fail_if_success (apply tkG)); (repeat (first | exact Tk.here | apply Tk.there)); first | done | fail) (by (repeat (first | exact Wk.refl _ | exact Wk.nilr _ | exact Wk.nilm | apply Wk.aggc | apply Wk.tupc | exact Wk.aggn | exact Wk.tupn)); first | done | fail) ?_ | refine LeH.skip ?_))⟩ ?_
  refine S.call ?_; refine (cp).mono ?_; rintro r h' ⟨rfl, hh⟩; subst hh
  (repeat' (first | (refine iS ?_; refine iMu ?_; refine S.mapU ?_) | refine svz ⟨fun b hq => ?_⟩ | refine sv1 ?_ | refine svs ⟨?_⟩ | refine svu ⟨fun u => ?_⟩ | (refine svg (fun hg => ?_) (fun hg => ?_) <;> try (exfalso; first | omega | contradiction)) | (refine svc (fun hc => ?_) (fun hc => ?_) <;> try (exfalso; first | omega | contradiction)) | refine sv2 ?_ | refine svh (fun hb => ?_) (fun hb => ?_) | refine svb (fun b => ?_) | refine sva ?_ | refine sv3 ?_))
  revert b; intro b16
  refine W.nil_ 1 43 ?_
  refine W.nil_ 1 43 ?_
  refine W.loop (J := fun x : List Nat × Option Nat × SVT × Value × Value => ⟨28, [(16, .val (.pointer (some ⟨b16, 0, none⟩))), (3, .val (.pointer (some ⟨b3, 0, none⟩))), (2, .val (.pointer (some ⟨b2, 0, none⟩)))], mitV b16 .u32 vIds k x.1 x.2.1 :: mpV bk .u32 idA ((x.2.2.1.map (entW k0 x.2.2.2.1 k1 x.2.2.2.2))) :: mpV bu .u32 (vI .u32) up :: .own x.2.2.2.1 1 (ints .u32 ((ofS x.2.2.1 k0))) 43 :: .own x.2.2.2.2 1 (ints .u32 ((ofS x.2.2.1 k1))) 43 :: .box b3 [.val (.map (some bk)), .val (.map (some bu))] 28 :: .box b2 [.val (.map none), .val (.map none)] 28 :: h⟩)
    (Φ := fun x => (x.2.2.1 ++ remL k x.1).Perm k) (μ := fun x => x.1.length) (List.range k.length, none, [], .slice none 0 0, .slice none 0 0) ⟨rfl, (by repeat (first | exact LeT.nil | refine LeT.cons rfl ?_ | refine LeT.consw rfl (by (repeat (first | exact Wk.refl _ | exact Wk.nilr _ | exact Wk.nilm | apply Wk.aggc | apply Wk.tupc | exact Wk.aggn | exact Wk.tupn)); first | done | fail) ?_)), (by repeat (first | exact LeH.refl _ | exact LeH.nil _ | refine LeH.cons (by (fail_if_success (apply tkG)); (repeat (first | exact Tk.here | apply Tk.there)); first | done | fail) ?_ | refine LeH.boxw (by (fail_if_success (apply tkG)); (repeat (first | exact Tk.here | apply Tk.there)); first | done | fail) (by (repeat (first | exact Wk.refl _ | exact Wk.nilr _ | exact Wk.nilm | apply Wk.aggc | apply Wk.tupc | exact Wk.aggn | exact Wk.tupn)); first | done | fail) ?_ | refine LeH.skip ?_))⟩ (rng_start k) ?_
  rintro ⟨left, last, done, v0, v1⟩ hp
  dsimp only at hp ⊢
  (repeat' (first | (refine iS ?_; refine iMu ?_; refine S.mapU ?_) | refine svz ⟨fun b hq => ?_⟩ | refine sv1 ?_ | refine svs ⟨?_⟩ | refine svu ⟨fun u => ?_⟩ | (refine svg (fun hg => ?_) (fun hg => ?_) <;> try (exfalso; first | omega | contradiction)) | (refine svc (fun hc => ?_) (fun hc => ?_) <;> try (exfalso; first | omega | contradiction)) | refine sv2 ?_ | refine svh (fun hb => ?_) (fun hb => ?_) | refine svb (fun b => ?_) | refine sva ?_ | refine sv3 ?_))
  refine S.next (fun hle => ?_) (fun i p hi hpi => ?_)
  · have hd := rng_end hp hle
    rw [show ofS done k0 = ofS k k0 by unfold ofS; rw [lkF_perm hn hd], show ofS done k1 = ofS k k1 by unfold ofS; rw [lkF_perm hn hd]]
    (repeat' (first | (refine iS ?_; refine iMu ?_; refine S.mapU ?_) | refine svz ⟨fun b hq => ?_⟩ | refine sv1 ?_ | refine svs ⟨?_⟩ | refine svu ⟨fun u => ?_⟩ | (refine svg (fun hg => ?_) (fun hg => ?_) <;> try (exfalso; first | omega | contradiction)) | (refine svc (fun hc => ?_) (fun hc => ?_) <;> try (exfalso; first | omega | contradiction)) | refine sv2 ?_ | refine svh (fun hb => ?_) (fun hb => ?_) | refine svb (fun b => ?_) | refine sva ?_ | refine sv3 ?_))
    exact fin_r (h' := mpV bk .u32 idA (k.map (entW k0 v0 k1 v1)) :: mpV bu .u32 (vI .u32) up :: .own v0 1 (ints .u32 (ofS k k0)) 43 :: .own v1 1 (ints .u32 (ofS k k1)) 43 :: h) ⟨bk, bu, v0, v1, rfl, rfl⟩ (h2 := .skip (leh_mp (hd.map _) (by repeat (first | exact LeH.refl _ | exact LeH.nil _ | refine LeH.cons (by (fail_if_success (apply tkG)); (repeat (first | exact Tk.here | apply Tk.there)); first | done | fail) ?_ | refine LeH.boxw (by (fail_if_success (apply tkG)); (repeat (first | exact Tk.here | apply Tk.there)); first | done | fail) (by (repeat (first | exact Wk.refl _ | exact Wk.nilr _ | exact Wk.nilm | apply Wk.aggc | apply Wk.tupc | exact Wk.aggn | exact Wk.tupn)); first | done | fail) ?_ | refine LeH.skip ?_))))
  · have hst := rng_step hp hi hpi
    have hnd := (hst.map (·.1)).nodup_iff.2 hn
    rw [List.map_append, List.map_append, List.append_assoc, List.nodup_append] at hnd
    have hnew : p.1 ∉ done.map (·.1) := fun hm => hnd.2.2 p.1 hm p.1 (by simp) rfl
    obtain ⟨c, l⟩ := p
    have hll := hl (c, l) (List.mem_of_getElem? hpi)
    dsimp only at hnew hll
    have hnk : (c, l).1 ∉ (done.map (entW k0 v0 k1 v1)).map (·.1) := by rw [entW_keys]; exact hnew
    have cl := fun h => clone_c l h (by omega)
    have cl0 := fun h => clone_c0 l h (by omega)
    unfold vIds at *
    by_cases hc : c = k0
    · have hc1 : ¬ c = k1 := fun e => h01 (hc ▸ e)
      refine RL.nil_ 1 43 ?_
      (repeat' (first | refine svz ⟨fun b hq => ?_⟩ | refine sv1 ?_ | refine svs ⟨?_⟩ | refine svu ⟨fun u => ?_⟩ | (refine svg (fun hg => ?_) (fun hg => ?_) <;> try (exfalso; first | omega | contradiction)) | (refine svc (fun hc => ?_) (fun hc => ?_) <;> try (exfalso; first | omega | contradiction)) | refine sv2 ?_ | refine svh (fun hb => ?_) (fun hb => ?_) | refine svb (fun b => ?_) | refine sva ?_ | refine sv3 ?_))
      refine R2.B ?_
      refine S.call ?_
      refine (cl0 _).mono ?_
      rintro r h' (⟨rfl, hnil, hh⟩ | ⟨w, rfl, hh⟩)
      · subst hh
        refine kd ?_
        (repeat' (first | refine svz ⟨fun b hq => ?_⟩ | refine sv1 ?_ | refine svs ⟨?_⟩ | refine svu ⟨fun u => ?_⟩ | (refine svg (fun hg => ?_) (fun hg => ?_) <;> try (exfalso; first | omega | contradiction)) | (refine svc (fun hc => ?_) (fun hc => ?_) <;> try (exfalso; first | omega | contradiction)) | refine sv2 ?_ | refine svh (fun hb => ?_) (fun hb => ?_) | refine svb (fun b => ?_) | refine sva ?_ | refine sv3 ?_))
        refine S.mapU (f := idA) (m := done.map (entW k0 v0 k1 v1)) (a := .val (.slice none 0 0)) ?_
        rw [putF_new _ hnk]
        (repeat' (first | (refine iS ?_; refine iMu ?_; refine S.mapU ?_) | refine svz ⟨fun b hq => ?_⟩ | refine sv1 ?_ | refine svs ⟨?_⟩ | refine svu ⟨fun u => ?_⟩ | (refine svg (fun hg => ?_) (fun hg => ?_) <;> try (exfalso; first | omega | contradiction)) | (refine svc (fun hc => ?_) (fun hc => ?_) <;> try (exfalso; first | omega | contradiction)) | refine sv2 ?_ | refine svh (fun hb => ?_) (fun hb => ?_) | refine svb (fun b => ?_) | refine sva ?_ | refine sv3 ?_))
        refine ⟨(left.erase i, some i, done ++ [(c, l)], .slice none 0 0, v1), hst, ?_, rng_less hi⟩
        dsimp only
        rw [entW_hit0 hc hnew v0 v1, ofs_hit hc hnew, ofs_miss hc1, hnil]
        exact ⟨rfl, (by repeat (first | exact LeT.nil | refine LeT.cons rfl ?_ | refine LeT.consw rfl (by (repeat (first | exact Wk.refl _ | exact Wk.nilr _ | exact Wk.nilm | apply Wk.aggc | apply Wk.tupc | exact Wk.aggn | exact Wk.tupn)); first | done | fail) ?_)), (by repeat (first | exact LeH.refl _ | exact LeH.nil _ | refine LeH.cons (by (fail_if_success (apply tkG)); (repeat (first | exact Tk.here | apply Tk.there)); first | done | fail) ?_ | refine LeH.boxw (by (fail_if_success (apply tkG)); (repeat (first | exact Tk.here | apply Tk.there)); first | done | fail) (by (repeat (first | exact Wk.refl _ | exact Wk.nilr _ | exact Wk.nilm | apply Wk.aggc | apply Wk.tupc | exact Wk.aggn | exact Wk.tupn)); first | done | fail) ?_ | refine LeH.skip ?_))⟩
      · subst hh
        refine kd ?_
        (repeat' (first | refine svz ⟨fun b hq => ?_⟩ | refine sv1 ?_ | refine svs ⟨?_⟩ | refine svu ⟨fun u => ?_⟩ | (refine svg (fun hg => ?_) (fun hg => ?_) <;> try (exfalso; first | omega | contradiction)) | (refine svc (fun hc => ?_) (fun hc => ?_) <;> try (exfalso; first | omega | contradiction)) | refine sv2 ?_ | refine svh (fun hb => ?_) (fun hb => ?_) | refine svb (fun b => ?_) | refine sva ?_ | refine sv3 ?_))
        refine S.mapU (f := idA) (m := done.map (entW k0 v0 k1 v1)) (a := .val w) ?_
        rw [putF_new _ hnk]
        (repeat' (first | (refine iS ?_; refine iMu ?_; refine S.mapU ?_) | refine svz ⟨fun b hq => ?_⟩ | refine sv1 ?_ | refine svs ⟨?_⟩ | refine svu ⟨fun u => ?_⟩ | (refine svg (fun hg => ?_) (fun hg => ?_) <;> try (exfalso; first | omega | contradiction)) | (refine svc (fun hc => ?_) (fun hc => ?_) <;> try (exfalso; first | omega | contradiction)) | refine sv2 ?_ | refine svh (fun hb => ?_) (fun hb => ?_) | refine svb (fun b => ?_) | refine sva ?_ | refine sv3 ?_))
        refine ⟨(left.erase i, some i, done ++ [(c, l)], w, v1), hst, ?_, rng_less hi⟩
        dsimp only
        rw [entW_hit0 hc hnew v0 v1, ofs_hit hc hnew, ofs_miss hc1]
        exact ⟨rfl, (by repeat (first | exact LeT.nil | refine LeT.cons rfl ?_ | refine LeT.consw rfl (by (repeat (first | exact Wk.refl _ | exact Wk.nilr _ | exact Wk.nilm | apply Wk.aggc | apply Wk.tupc | exact Wk.aggn | exact Wk.tupn)); first | done | fail) ?_)), (by repeat (first | exact LeH.refl _ | exact LeH.nil _ | refine LeH.cons (by (fail_if_success (apply tkG)); (repeat (first | exact Tk.here | apply Tk.there)); first | done | fail) ?_ | refine LeH.boxw (by (fail_if_success (apply tkG)); (repeat (first | exact Tk.here | apply Tk.there)); first | done | fail) (by (repeat (first | exact Wk.refl _ | exact Wk.nilr _ | exact Wk.nilm | apply Wk.aggc | apply Wk.tupc | exact Wk.aggn | exact Wk.tupn)); first | done | fail) ?_ | refine LeH.skip ?_))⟩
    by_cases hc1 : c = k1
    · refine RL.nil_ 1 43 ?_
      (repeat' (first | refine svz ⟨fun b hq => ?_⟩ | refine sv1 ?_ | refine svs ⟨?_⟩ | refine svu ⟨fun u => ?_⟩ | (refine svg (fun hg => ?_) (fun hg => ?_) <;> try (exfalso; first | omega | contradiction)) | (refine svc (fun hc => ?_) (fun hc => ?_) <;> try (exfalso; first | omega | contradiction)) | refine sv2 ?_ | refine svh (fun hb => ?_) (fun hb => ?_) | refine svb (fun b => ?_) | refine sva ?_ | refine sv3 ?_))
      refine R2.B ?_
      refine S.call ?_
      refine (cl0 _).mono ?_
      rintro r h' (⟨rfl, hnil, hh⟩ | ⟨w, rfl, hh⟩)
      · subst hh
        refine kd ?_
        (repeat' (first | refine svz ⟨fun b hq => ?_⟩ | refine sv1 ?_ | refine svs ⟨?_⟩ | refine svu ⟨fun u => ?_⟩ | (refine svg (fun hg => ?_) (fun hg => ?_) <;> try (exfalso; first | omega | contradiction)) | (refine svc (fun hc => ?_) (fun hc => ?_) <;> try (exfalso; first | omega | contradiction)) | refine sv2 ?_ | refine svh (fun hb => ?_) (fun hb => ?_) | refine svb (fun b => ?_) | refine sva ?_ | refine sv3 ?_))
        refine S.mapU (f := idA) (m := done.map (entW k0 v0 k1 v1)) (a := .val (.slice none 0 0)) ?_
        rw [putF_new _ hnk]
        (repeat' (first | (refine iS ?_; refine iMu ?_; refine S.mapU ?_) | refine svz ⟨fun b hq => ?_⟩ | refine sv1 ?_ | refine svs ⟨?_⟩ | refine svu ⟨fun u => ?_⟩ | (refine svg (fun hg => ?_) (fun hg => ?_) <;> try (exfalso; first | omega | contradiction)) | (refine svc (fun hc => ?_) (fun hc => ?_) <;> try (exfalso; first | omega | contradiction)) | refine sv2 ?_ | refine svh (fun hb => ?_) (fun hb => ?_) | refine svb (fun b => ?_) | refine sva ?_ | refine sv3 ?_))
        refine ⟨(left.erase i, some i, done ++ [(c, l)], v0, .slice none 0 0), hst, ?_, rng_less hi⟩
        dsimp only
        rw [entW_hit1 hc hc1 hnew v0 v1, ofs_hit hc1 hnew, ofs_miss hc, hnil]
        exact ⟨rfl, (by repeat (first | exact LeT.nil | refine LeT.cons rfl ?_ | refine LeT.consw rfl (by (repeat (first | exact Wk.refl _ | exact Wk.nilr _ | exact Wk.nilm | apply Wk.aggc | apply Wk.tupc | exact Wk.aggn | exact Wk.tupn)); first | done | fail) ?_)), (by repeat (first | exact LeH.refl _ | exact LeH.nil _ | refine LeH.cons (by (fail_if_success (apply tkG)); (repeat (first | exact Tk.here | apply Tk.there)); first | done | fail) ?_ | refine LeH.boxw (by (fail_if_success (apply tkG)); (repeat (first | exact Tk.here | apply Tk.there)); first | done | fail) (by (repeat (first | exact Wk.refl _ | exact Wk.nilr _ | exact Wk.nilm | apply Wk.aggc | apply Wk.tupc | exact Wk.aggn | exact Wk.tupn)); first | done | fail) ?_ | refine LeH.skip ?_))⟩
      · subst hh
        refine kd ?_
        (repeat' (first | refine svz ⟨fun b hq => ?_⟩ | refine sv1 ?_ | refine svs ⟨?_⟩ | refine svu ⟨fun u => ?_⟩ | (refine svg (fun hg => ?_) (fun hg => ?_) <;> try (exfalso; first | omega | contradiction)) | (refine svc (fun hc => ?_) (fun hc => ?_) <;> try (exfalso; first | omega | contradiction)) | refine sv2 ?_ | refine svh (fun hb => ?_) (fun hb => ?_) | refine svb (fun b => ?_) | refine sva ?_ | refine sv3 ?_))
        refine S.mapU (f := idA) (m := done.map (entW k0 v0 k1 v1)) (a := .val w) ?_
        rw [putF_new _ hnk]
        (repeat' (first | (refine iS ?_; refine iMu ?_; refine S.mapU ?_) | refine svz ⟨fun b hq => ?_⟩ | refine sv1 ?_ | refine svs ⟨?_⟩ | refine svu ⟨fun u => ?_⟩ | (refine svg (fun hg => ?_) (fun hg => ?_) <;> try (exfalso; first | omega | contradiction)) | (refine svc (fun hc => ?_) (fun hc => ?_) <;> try (exfalso; first | omega | contradiction)) | refine sv2 ?_ | refine svh (fun hb => ?_) (fun hb => ?_) | refine svb (fun b => ?_) | refine sva ?_ | refine sv3 ?_))
        refine ⟨(left.erase i, some i, done ++ [(c, l)], v0, w), hst, ?_, rng_less hi⟩
        dsimp only
        rw [entW_hit1 hc hc1 hnew v0 v1, ofs_hit hc1 hnew, ofs_miss hc]
        exact ⟨rfl, (by repeat (first | exact LeT.nil | refine LeT.cons rfl ?_ | refine LeT.consw rfl (by (repeat (first | exact Wk.refl _ | exact Wk.nilr _ | exact Wk.nilm | apply Wk.aggc | apply Wk.tupc | exact Wk.aggn | exact Wk.tupn)); first | done | fail) ?_)), (by repeat (first | exact LeH.refl _ | exact LeH.nil _ | refine LeH.cons (by (fail_if_success (apply tkG)); (repeat (first | exact Tk.here | apply Tk.there)); first | done | fail) ?_ | refine LeH.boxw (by (fail_if_success (apply tkG)); (repeat (first | exact Tk.here | apply Tk.there)); first | done | fail) (by (repeat (first | exact Wk.refl _ | exact Wk.nilr _ | exact Wk.nilm | apply Wk.aggc | apply Wk.tupc | exact Wk.aggn | exact Wk.tupn)); first | done | fail) ?_ | refine LeH.skip ?_))⟩
    · (repeat' (first | refine svz ⟨fun b hq => ?_⟩ | refine sv1 ?_ | refine svs ⟨?_⟩ | refine svu ⟨fun u => ?_⟩ | (refine svg (fun hg => ?_) (fun hg => ?_) <;> try (exfalso; first | omega | contradiction)) | (refine svc (fun hc => ?_) (fun hc => ?_) <;> try (exfalso; first | omega | contradiction)) | refine sv2 ?_ | refine svh (fun hb => ?_) (fun hb => ?_) | refine svb (fun b => ?_) | refine sva ?_ | refine sv3 ?_))
      refine R2.C (cl _) ?_
      (repeat' (first | refine svz ⟨fun b hq => ?_⟩ | refine sv1 ?_ | refine svs ⟨?_⟩ | refine svu ⟨fun u => ?_⟩ | (refine svg (fun hg => ?_) (fun hg => ?_) <;> try (exfalso; first | omega | contradiction)) | (refine svc (fun hc => ?_) (fun hc => ?_) <;> try (exfalso; first | omega | contradiction)) | refine sv2 ?_ | refine svh (fun hb => ?_) (fun hb => ?_) | refine svb (fun b => ?_) | refine sva ?_ | refine sv3 ?_))
      refine S.mapU (f := idA) (m := done.map (entW k0 v0 k1 v1)) (a := .ro 1 (ints .u32 l)) ?_
      rw [putF_new _ hnk]
      (repeat' (first | (refine iS ?_; refine iMu ?_; refine S.mapU ?_) | refine svz ⟨fun b hq => ?_⟩ | refine sv1 ?_ | refine svs ⟨?_⟩ | refine svu ⟨fun u => ?_⟩ | (refine svg (fun hg => ?_) (fun hg => ?_) <;> try (exfalso; first | omega | contradiction)) | (refine svc (fun hc => ?_) (fun hc => ?_) <;> try (exfalso; first | omega | contradiction)) | refine sv2 ?_ | refine svh (fun hb => ?_) (fun hb => ?_) | refine svb (fun b => ?_) | refine sva ?_ | refine sv3 ?_))
      refine ⟨(left.erase i, some i, done ++ [(c, l)], v0, v1), hst, ?_, rng_less hi⟩
      dsimp only
      rw [entW_miss hc hc1 v0 v1, ofs_miss hc, ofs_miss hc1]
      exact ⟨rfl, (by repeat (first | exact LeT.nil | refine LeT.cons rfl ?_ | refine LeT.consw rfl (by (repeat (first | exact Wk.refl _ | exact Wk.nilr _ | exact Wk.nilm | apply Wk.aggc | apply Wk.tupc | exact Wk.aggn | exact Wk.tupn)); first | done | fail) ?_)), (by repeat (first | exact LeH.refl _ | exact LeH.nil _ | refine LeH.cons (by (fail_if_success (apply tkG)); (repeat (first | exact Tk.here | apply Tk.there)); first | done | fail) ?_ | refine LeH.boxw (by (fail_if_success (apply tkG)); (repeat (first | exact Tk.here | apply Tk.there)); first | done | fail) (by (repeat (first | exact Wk.refl _ | exact Wk.nilr _ | exact Wk.nilm | apply Wk.aggc | apply Wk.tupc | exact Wk.aggn | exact Wk.tupn)); first | done | fail) ?_ | refine LeH.skip ?_))⟩
end Go.Proofs.Ytkpbbiknhhmfiaa
