/- Trees: twin. No condition. -/
import Derived.Test.YtbknacpdcdkjiaaGreatQ5
namespace Go.Proofs.YtbknacpdcdkjiaaGreat
open Go Go.VM
attribute [local irreducible] PurV Pur Step RL W D ACalls Then InBlock Fini
set_option linter.unusedVariables false
set_option linter.unusedSimpArgs false
set_option maxHeartbeats 20000000
def idA (x : AV) : AV := x
def entV (k0 : Int) (v : Value) (p : Int × List Int) : Int × AV := (p.1, if p.1 = k0 then .val v else vIds p.2)
theorem lkF_perm {α : Type} {t t' : List (Int × α)} {i : Int} (hn : (t.map (·.1)).Nodup) (hp : t'.Perm t) : lkF t' i = lkF t i := by
  cases e : lkF t i with
  | none => exact lkF_none.2 fun p h => lkF_none.1 e p (hp.mem_iff.1 h)
  | some a => exact lkF_nodup (((hp.map (·.1)).nodup_iff).2 hn) (hp.mem_iff.2 (lkF_some e))
theorem ent_keys {k0 : Int} {v : Value} (t : SVT) : (t.map (entV k0 v)).map (·.1) = t.map (·.1) := by rw [List.map_map]; rfl
theorem ent_miss {k0 c : Int} {t : SVT} {l : List Int} (hc : ¬ c = k0) (v : Value) : (t ++ [(c, l)]).map (entV k0 v) = t.map (entV k0 v) ++ [(c, .ro 1 (ints .u32 l))] := by
  rw [List.map_append, List.map_singleton]
  unfold entV vIds
  rw [if_neg hc]
theorem ent_hit {k0 c : Int} {t : SVT} {l : List Int} {w : Value} (hc : c = k0) (hn : c ∉ t.map (·.1)) (v : Value) : (t ++ [(c, l)]).map (entV k0 w) = t.map (entV k0 v) ++ [(c, .val w)] := by
  rw [List.map_append, List.map_singleton]
  congr 1
  · refine List.map_congr_left fun p hp => ?_
    have : p.1 ≠ k0 := fun e => hn (by rw [hc, ← e]; exact List.mem_map.2 ⟨p, hp, rfl⟩)
    unfold entV
    rw [if_neg this, if_neg this]
  · unfold entV; rw [if_pos hc]
theorem ofs_miss {k0 c : Int} {t : SVT} {l : List Int} (hc : ¬ c = k0) : ofS (t ++ [(c, l)]) k0 = ofS t k0 := by
  unfold ofS lkF
  rw [List.find?_append]
  cases e : t.find? (fun p => decide (p.1 = k0)) with
  | some a => rfl
  | none => simp [hc]
theorem ofs_hit {k0 c : Int} {t : SVT} {l : List Int} (hc : c = k0) (hn : c ∉ t.map (·.1)) : ofS (t ++ [(c, l)]) k0 = l := by
  unfold ofS lkF
  have e : t.find? (fun p => decide (p.1 = k0)) = none := by
    rw [List.find?_eq_none]
    intro p hp q
    exact hn (by rw [hc, ← of_decide_eq_true q]; exact List.mem_map.2 ⟨p, hp, rfl⟩)
  rw [List.find?_append, e]
  simp [hc]
set_option maxRecDepth 100000 in
theorem twin_c (k : SVT) (up : UP) (k0 : Int) (h : Heap) (hn : (k.map (·.1)).Nodup) (hu : (up.map (·.1)).Nodup) (hl : ∀ p ∈ k, p.2.length ≤ 1000000) (hkl : k.length ≤ 1000000) :
    ACalls Tryz.prog 60 [encT k up] h (fun r h' => ∃ bk bu v, r = .agg [.val (.map (some bk)), .val (.map (some bu))] ∧ h' = mpV bk .u32 idA (k.map (entV k0 v)) :: mpV bu .u32 (vI .u32) up :: .own v 1 (ints .u32 (ofS k k0)) 38 :: h) := by
  unfold encT
  refine ACalls.intro Tryz.func60 rfl Tryz.ntmps60 Tryz.results60 (Nat.le_of_ble_eq_true rfl) ?_
  (repeat' (first|refine svz ⟨fun b hq=>?_⟩|refine svA ⟨?_⟩|refine svu ⟨fun u=>?_⟩|(refine svG (fun hg=>?_) (fun hg=>?_)<;>try exact svx)|refine svh (fun hb=>?_) (fun hb=>?_)|refine svb (fun b=>?_)|fail))
  revert b; intro b2
  revert b; intro b1
  refine S.mkm0 idA (fun bk => ?_)
  (repeat' (first|refine svz ⟨fun b hq=>?_⟩|refine svA ⟨?_⟩|refine svu ⟨fun u=>?_⟩|(refine svG (fun hg=>?_) (fun hg=>?_)<;>try exact svx)|refine svh (fun hb=>?_) (fun hb=>?_)|refine svb (fun b=>?_)|fail))
  refine S.mkm0 (vI .u32) (fun bu => ?_)
  (repeat' (first|refine svz ⟨fun b hq=>?_⟩|refine svA ⟨?_⟩|refine svu ⟨fun u=>?_⟩|(refine svG (fun hg=>?_) (fun hg=>?_)<;>try exact svx)|refine svh (fun hb=>?_) (fun hb=>?_)|refine svb (fun b=>?_)|fail))
  revert b; intro b3
  have cp := cpy_c bu up (.box b3 [.val (.map (some bk)), .val (.map (some bu))] 28 :: mpV bk .u32 idA ([] : List (Int × AV)) :: .box b2 [.val (.map none), .val (.map none)] 28 :: .box b1 [mapV .u32 vIds k, mapV .u32 (vI .u32) up] 28 :: h) hu
  refine Step.le (s' := ⟨28, [(12, mapV .u32 (vI .u32) up), (10, .val (.map (some bu))), (3, .val (.pointer (some ⟨b3, 0, none⟩))), (2, .val (.pointer (some ⟨b2, 0, none⟩))), (1, .val (.pointer (some ⟨b1, 0, none⟩)))], mpV bu .u32 (vI .u32) ([] : UP) :: .box b3 [.val (.map (some bk)), .val (.map (some bu))] 28 :: mpV bk .u32 idA ([] : List (Int × AV)) :: .box b2 [.val (.map none), .val (.map none)] 28 :: .box b1 [mapV .u32 vIds k, mapV .u32 (vI .u32) up] 28 :: h⟩) lee ?_
  refine S.call ?_; refine (cp).mono ?_; rintro r h' ⟨rfl, hh⟩; subst hh
  (repeat' (first|refine svz ⟨fun b hq=>?_⟩|refine svA ⟨?_⟩|refine svu ⟨fun u=>?_⟩|(refine svG (fun hg=>?_) (fun hg=>?_)<;>try exact svx)|refine svh (fun hb=>?_) (fun hb=>?_)|refine svb (fun b=>?_)|fail))
  revert b; intro b16
  refine W.nil_ 1 38 ?_
  refine W.loop (J := fun x : List Nat × Option Nat × SVT × Value => ⟨28, [(16, .val (.pointer (some ⟨b16, 0, none⟩))), (3, .val (.pointer (some ⟨b3, 0, none⟩))), (2, .val (.pointer (some ⟨b2, 0, none⟩)))], mitV b16 .u32 vIds k x.1 x.2.1 :: mpV bk .u32 idA ((x.2.2.1.map (entV k0 x.2.2.2))) :: mpV bu .u32 (vI .u32) up :: .own x.2.2.2 1 (ints .u32 ((ofS x.2.2.1 k0))) 38 :: .box b3 [.val (.map (some bk)), .val (.map (some bu))] 28 :: .box b2 [.val (.map none), .val (.map none)] 28 :: h⟩)
    (Φ := fun x => (x.2.2.1 ++ remL k x.1).Perm k) (μ := fun x => x.1.length) (List.range k.length, none, [], .slice none 0 0) lee (rng_start k) ?_
  rintro ⟨left, last, done, v⟩ hp
  dsimp only at hp ⊢
  (repeat' (first|refine svz ⟨fun b hq=>?_⟩|refine svA ⟨?_⟩|refine svu ⟨fun u=>?_⟩|(refine svG (fun hg=>?_) (fun hg=>?_)<;>try exact svx)|refine svh (fun hb=>?_) (fun hb=>?_)|refine svb (fun b=>?_)|fail))
  refine S.next (fun hle => ?_) (fun i p hi hpi => ?_)
  · have hd := rng_end hp hle
    rw [show ofS done k0 = ofS k k0 by unfold ofS; rw [lkF_perm hn hd]]
    (repeat' (first|refine svz ⟨fun b hq=>?_⟩|refine svA ⟨?_⟩|refine svu ⟨fun u=>?_⟩|(refine svG (fun hg=>?_) (fun hg=>?_)<;>try exact svx)|refine svh (fun hb=>?_) (fun hb=>?_)|refine svb (fun b=>?_)|fail))
    exact fin_r (h' := mpV bk .u32 idA (k.map (entV k0 v)) :: mpV bu .u32 (vI .u32) up :: .own v 1 (ints .u32 (ofS k k0)) 38 :: h) ⟨bk, bu, v, rfl, rfl⟩ (h2 := .skip (leh_mp (hd.map _) (by repeat (first | exact LeH.refl _ | exact LeH.nil _ | refine LeH.cons (by (fail_if_success (apply tkG)); (repeat (first | exact Tk.here | apply Tk.there)); first | done | fail) ?_ | refine LeH.boxw (by (fail_if_success (apply tkG)); (repeat (first | exact Tk.here | apply Tk.there)); first | done | fail) (by (repeat (first | exact Wk.refl _ | exact Wk.nilr _ | exact Wk.nilm | apply Wk.aggc | apply Wk.tupc | exact Wk.aggn | exact Wk.tupn)); first | done | fail) ?_ | refine LeH.skip ?_))))
  · have hst := rng_step hp hi hpi
    have hnd := (hst.map (·.1)).nodup_iff.2 hn
    rw [List.map_append, List.map_append, List.append_assoc, List.nodup_append] at hnd
    have hnew : p.1 ∉ done.map (·.1) := fun hm => hnd.2.2 p.1 hm p.1 (by simp) rfl
    obtain ⟨c, l⟩ := p
    have hll := hl (c, l) (List.mem_of_getElem? hpi)
    dsimp only at hnew hll
    have cl := fun h => clnI_c l h (by omega)
    have cl0 := fun h => clnI_c0 l h (by omega)
    unfold vIds at *
    by_cases hc : c = k0
    · refine RL.nil_ 1 38 ?_
      (repeat' (first | refine svz ⟨fun b hq=>?_⟩|refine svT ⟨?_⟩|refine svu ⟨fun u=>?_⟩|(refine svG (fun hg=>?_) (fun hg=>?_)<;>try exact svx)|refine svh (fun hb=>?_) (fun hb=>?_)|refine svb (fun b=>?_) | refine sva ?_ | refine sv3 ?_ | fail))
      refine R2.B ?_
      refine S.call ?_
      refine (cl0 _).mono ?_
      rintro r h' (⟨rfl, hnil, hh⟩ | ⟨w, rfl, hh⟩)
      · subst hh
        refine kd ?_
        (repeat' (first | refine svz ⟨fun b hq=>?_⟩|refine svT ⟨?_⟩|refine svu ⟨fun u=>?_⟩|(refine svG (fun hg=>?_) (fun hg=>?_)<;>try exact svx)|refine svh (fun hb=>?_) (fun hb=>?_)|refine svb (fun b=>?_) | refine sva ?_ | refine sv3 ?_ | fail))
        refine S.mapU (f := idA) (m := done.map (entV k0 v)) (a := .val (.slice none 0 0)) ?_
        rw [putF_new _ (show (c, l).1 ∉ (done.map (entV k0 v)).map (·.1) by rw [ent_keys]; exact hnew)]
        (repeat' (first|refine svz ⟨fun b hq=>?_⟩|refine svA ⟨?_⟩|refine svu ⟨fun u=>?_⟩|(refine svG (fun hg=>?_) (fun hg=>?_)<;>try exact svx)|refine svh (fun hb=>?_) (fun hb=>?_)|refine svb (fun b=>?_)|fail))
        refine ⟨(left.erase i, some i, done ++ [(c, l)], .slice none 0 0), hst, ?_, rng_less hi⟩
        dsimp only
        rw [ent_hit hc hnew v, ofs_hit hc hnew, hnil]
        exact lee
      · subst hh
        refine kd ?_
        (repeat' (first | refine svz ⟨fun b hq=>?_⟩|refine svT ⟨?_⟩|refine svu ⟨fun u=>?_⟩|(refine svG (fun hg=>?_) (fun hg=>?_)<;>try exact svx)|refine svh (fun hb=>?_) (fun hb=>?_)|refine svb (fun b=>?_) | refine sva ?_ | refine sv3 ?_ | fail))
        refine S.mapU (f := idA) (m := done.map (entV k0 v)) (a := .val w) ?_
        rw [putF_new _ (show (c, l).1 ∉ (done.map (entV k0 v)).map (·.1) by rw [ent_keys]; exact hnew)]
        (repeat' (first|refine svz ⟨fun b hq=>?_⟩|refine svA ⟨?_⟩|refine svu ⟨fun u=>?_⟩|(refine svG (fun hg=>?_) (fun hg=>?_)<;>try exact svx)|refine svh (fun hb=>?_) (fun hb=>?_)|refine svb (fun b=>?_)|fail))
        refine ⟨(left.erase i, some i, done ++ [(c, l)], w), hst, ?_, rng_less hi⟩
        dsimp only
        rw [ent_hit hc hnew v, ofs_hit hc hnew]
        exact lee
    · (repeat' (first | refine svz ⟨fun b hq=>?_⟩|refine svT ⟨?_⟩|refine svu ⟨fun u=>?_⟩|(refine svG (fun hg=>?_) (fun hg=>?_)<;>try exact svx)|refine svh (fun hb=>?_) (fun hb=>?_)|refine svb (fun b=>?_) | refine sva ?_ | refine sv3 ?_ | fail))
      refine R2.C (cl _) ?_
      (repeat' (first | refine svz ⟨fun b hq=>?_⟩|refine svT ⟨?_⟩|refine svu ⟨fun u=>?_⟩|(refine svG (fun hg=>?_) (fun hg=>?_)<;>try exact svx)|refine svh (fun hb=>?_) (fun hb=>?_)|refine svb (fun b=>?_) | refine sva ?_ | refine sv3 ?_ | fail))
      refine S.mapU (f := idA) (m := done.map (entV k0 v)) (a := .ro 1 (ints .u32 l)) ?_
      rw [putF_new _ (show (c, l).1 ∉ (done.map (entV k0 v)).map (·.1) by rw [ent_keys]; exact hnew)]
      (repeat' (first|refine svz ⟨fun b hq=>?_⟩|refine svA ⟨?_⟩|refine svu ⟨fun u=>?_⟩|(refine svG (fun hg=>?_) (fun hg=>?_)<;>try exact svx)|refine svh (fun hb=>?_) (fun hb=>?_)|refine svb (fun b=>?_)|fail))
      refine ⟨(left.erase i, some i, done ++ [(c, l)], v), hst, ?_, rng_less hi⟩
      dsimp only
      rw [ent_miss hc v, ofs_miss hc]
      exact lee
end Go.Proofs.YtbknacpdcdkjiaaGreat
