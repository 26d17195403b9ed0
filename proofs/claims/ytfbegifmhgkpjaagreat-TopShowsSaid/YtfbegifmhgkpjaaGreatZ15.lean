/- Canvases: Change. No condition. -/
import Derived.Test.YtfbegifmhgkpjaaGreatZ14
namespace Go.Proofs.YtfbegifmhgkpjaaGreat
open Go Go.VM
attribute [local irreducible] PurV Pur Step RL W D ACalls Then InBlock Fini
set_option linter.unusedVariables false
set_option linter.unusedSimpArgs false
set_option maxHeartbeats 20000000
def mvF (mv : List (Int × SHF)) (id : Int) : SHF := (lkF mv id).getD ⟨0, 0, false⟩
theorem lk_mv (mv : List (Int × SHF)) (id : Int) : lkV vSh (.agg [.val (.int .i64 (0)), .val (.int .i64 (0)), .val (.bool (false))]) (lkF mv id) = vSh (mvF mv id) := by
  unfold mvF
  cases lkF mv id <;> rfl
def chgI (V V2 : List (Int × SW)) (t : PW) (mv : List (Int × SHF)) (id : Int) (it : IT) : IT := if it.bk then it else { g := chgG V V2 id (bxF t id).w.toNat (bxF t id).h.toNat (mvF mv id) it, gd := it.gd, win := it.win, bk := false }
def chC (V V2 : List (Int × SW)) (t : PW) (mv : List (Int × SHF)) (c : CN) : CN := c.map fun p => (p.1, chgI V V2 t mv p.1 p.2)
structure IOk (t : PW) (mv : List (Int × SHF)) (id : Int) (it : IT) : Prop where
  g : it.g.Ok
  gd : 0 ≤ it.gd ∧ it.gd ≤ 255
  win : it.win = true
  box : ∃ b, lkF t id = some b ∧ b.Ok ∧ (it.bk = true → b.w = it.g.w ∧ b.h = it.g.h ∧ lkF mv id = none)
  sh : (mvF mv id).Ok
theorem putF_last {α : Type} {t : List (Int × α)} {i : Int} {a c : α} (h : i ∉ t.map (·.1)) : putF (t ++ [(i, a)]) i c = t ++ [(i, c)] := by
  rw [← putF_new a h, putF_twice, putF_new c h]
set_option maxRecDepth 100000 in
theorem cchange_c (c : CN) (o o2 : List Int) (V V2 : List (Int × SW)) (t : PW) (mv : List (Int × SHF)) (h : Heap) (hn : (c.map (·.1)).Nodup) (hl : c.length ≤ 1000) (hc : ∀ p ∈ c, IOk t mv p.1 p.2) (ok : VOk V) (ok2 : VOk V2) (ho2 : o2.length ≤ 1000000) :
    ACalls Tryz.prog 7 [encC c, encW o V, encW o2 V2, encP t, mapV .u32 vSh mv] h (fun r h' => ∃ l : List CH, r = .tup [encC (chC V V2 t mv c), .ro 3 (l.map CH.enc)] ∧ h' = h) := by
  have vw := fun h => vwin_c o2 V2 h ho2
  have key : ∀ p ∈ c, ∃ b, (∀ h, ACalls Tryz.prog 9 [encP t, .val (.int .u32 (p.1))] h (fun r h' => r = .tup [vBox b, .val (.bool (true))] ∧ h' = h)) ∧ ∀ h, ACalls Tryz.prog 39 [vIt p.2, .val (.int .u32 (p.1)), encW o V, encW o2 V2, vBox b, vSh (mvF mv p.1)] h (fun r h' => ∃ ch : CH, r = .tup [vIt (chgI V V2 t mv p.1 p.2), ch.enc] ∧ h' = h) := fun p hp => by
    obtain ⟨k1, k2, k3, ⟨b, k4, k5, k6⟩, k7⟩ := hc p hp
    refine ⟨b, fun h => pbox_c t p.1 b h k4, fun h => ?_⟩
    have hb : bxF t p.1 = b := by unfold bxF; rw [k4]; rfl
    have h1 := k5.w; have h2 := k5.h
    cases e : p.2.bk with
    | true =>
      obtain ⟨q1, q2, q3⟩ := k6 e
      have : mvF mv p.1 = ⟨0, 0, false⟩ := by unfold mvF; rw [q3]; rfl
      rw [this, show chgI V V2 t mv p.1 p.2 = p.2 by unfold chgI; rw [if_pos e]]
      exact chgB_c p.2 p.1 o o2 V V2 b h k1 e q1 q2 ok2
    | false =>
      have := chgN_c p.2 p.1 o o2 V V2 b b.w.toNat b.h.toNat (mvF mv p.1) h k1 e k2 (by omega) (by omega) (by omega) (by omega) ok ok2 k7
      rw [show chgI V V2 t mv p.1 p.2 = { g := chgG V V2 p.1 b.w.toNat b.h.toNat (mvF mv p.1) p.2, gd := p.2.gd, win := p.2.win, bk := false } by
        unfold chgI; rw [if_neg (by rw [e]; decide), hb]]
      rw [e] at this
      exact this
  have hwin : ∀ p ∈ c, p.2.win = true := fun p hp => (hc p hp).win
  clear hc ok ok2
  unfold chC
  generalize chgI V V2 t mv = F at *
  refine ACalls.frz (Q := fun r h' => ∃ (l : List CH) (v : Value), r = .tup [encC (c.map fun p => (p.1, F p.1 p.2)), .val v] ∧ h' = .own v 3 (l.map CH.enc) 120 :: h) ?_ (by rintro r h' ⟨l, v, rfl, rfl⟩; exact ⟨v, 3, _, _, _, h, .here, .tupc (.keep _) (.tupc .hit .tupn), l, rfl, rfl⟩)
  unfold encC encW encP at *
  refine ACalls.intro Tryz.func7 rfl Tryz.ntmps7 Tryz.results7 (Nat.le_of_ble_eq_true rfl) ?_
  (repeat' (first|refine svz ⟨fun b hq=>?_⟩|refine svA ⟨?_⟩|refine svu ⟨fun u=>?_⟩|(refine svG (fun hg=>?_) (fun hg=>?_)<;>try exact svx)|refine svh (fun hb=>?_) (fun hb=>?_)|refine svb (fun b=>?_)|fail))
  refine W.scope ?_
  (repeat' (first|refine svz ⟨fun b hq=>?_⟩|refine svA ⟨?_⟩|refine svu ⟨fun u=>?_⟩|(refine svG (fun hg=>?_) (fun hg=>?_)<;>try exact svx)|refine svh (fun hb=>?_) (fun hb=>?_)|refine svb (fun b=>?_)|fail))
  rename_i b5 b6 b7 b8
  revert b; intro b10
  refine S.mkm vIt (fun bn => ?_)
  (repeat' (first|refine svz ⟨fun b hq=>?_⟩|refine svA ⟨?_⟩|refine svu ⟨fun u=>?_⟩|(refine svG (fun hg=>?_) (fun hg=>?_)<;>try exact svx)|refine svh (fun hb=>?_) (fun hb=>?_)|refine svb (fun b=>?_)|fail))
  refine S.mkm0 CH.enc (fun bc => ?_)
  (repeat' (first|refine svz ⟨fun b hq=>?_⟩|refine svA ⟨?_⟩|refine svu ⟨fun u=>?_⟩|(refine svG (fun hg=>?_) (fun hg=>?_)<;>try exact svx)|refine svh (fun hb=>?_) (fun hb=>?_)|refine svb (fun b=>?_)|fail))
  refine W.label ?_
  (repeat' (first|refine svz ⟨fun b hq=>?_⟩|refine svA ⟨?_⟩|refine svu ⟨fun u=>?_⟩|(refine svG (fun hg=>?_) (fun hg=>?_)<;>try exact svx)|refine svh (fun hb=>?_) (fun hb=>?_)|refine svb (fun b=>?_)|fail))
  revert b; intro b30
  refine W.loop (J := fun x : List Nat × Option Nat × CN × List (Int × CH) => ⟨94, [(30, .val (.pointer (some ⟨b30, 0, none⟩))), (11, .val (.slice none 0 0)), (10, .val (.pointer (some ⟨b10, 0, none⟩))), (8, .val (.pointer (some ⟨b8, 0, none⟩))), (7, .val (.pointer (some ⟨b7, 0, none⟩))), (6, .val (.pointer (some ⟨b6, 0, none⟩))), (4, mapV .u32 vSh mv), (12, .val (.map (some bn))), (13, .val (.map (some bc)))], mitV b30 .u32 vIt c x.1 x.2.1 :: mpV bc .u32 CH.enc x.2.2.2 :: mpV bn .u32 vIt (x.2.2.1.map fun p => (p.1, F p.1 p.2)) :: .box b10 [.val (.map none)] 34 :: .box b8 [mapV .u32 vBox t] 31 :: .box b7 [.ro 1 (ints .u32 (o2)), mapV .u32 vSW V2] 43 :: .box b6 [.ro 1 (ints .u32 (o)), mapV .u32 vSW V] 43 :: h⟩)
    (Φ := fun x => (x.2.2.1 ++ remL c x.1).Perm c) (μ := fun x => x.1.length) (List.range c.length, none, [], []) lee (rng_start c) ?_
  rintro ⟨left, last, done, dch⟩ hp
  dsimp only at hp ⊢
  (repeat' (first|refine svz ⟨fun b hq=>?_⟩|refine svA ⟨?_⟩|refine svu ⟨fun u=>?_⟩|(refine svG (fun hg=>?_) (fun hg=>?_)<;>try exact svx)|refine svh (fun hb=>?_) (fun hb=>?_)|refine svb (fun b=>?_)|fail))
  refine S.next (fun hl => ?_) (fun i p hi hpi => ?_)
  · have hd := rng_end hp hl
    have hd2 := hd.map fun p => (p.1, F p.1 p.2)
    (repeat' (first|refine svz ⟨fun b hq=>?_⟩|refine svA ⟨?_⟩|refine svu ⟨fun u=>?_⟩|(refine svG (fun hg=>?_) (fun hg=>?_)<;>try exact svx)|refine svh (fun hb=>?_) (fun hb=>?_)|refine svb (fun b=>?_)|fail))
    refine S.call ?_; refine (vw _).mono ?_; rintro r h' ⟨rfl, hh⟩; subst hh
    (repeat' (first|refine svz ⟨fun b hq=>?_⟩|refine svA ⟨?_⟩|refine svu ⟨fun u=>?_⟩|(refine svG (fun hg=>?_) (fun hg=>?_)<;>try exact svx)|refine svh (fun hb=>?_) (fun hb=>?_)|refine svb (fun b=>?_)|fail))
    refine W.le (s' := ⟨94, [(69, .val (.int .i64 (0))), (68, .val (.int .i64 ((o2.length : Int)))), (67, .ro 1 (ints .u32 (o2))), (18, .val (.slice none 0 0)), (13, .val (.map (some bc))), (12, .val (.map (some bn))), (10, .val (.pointer (some ⟨b10, 0, none⟩)))], mpV bc .u32 CH.enc dch :: mpV bn .u32 vIt (c.map fun p => (p.1, F p.1 p.2)) :: .box b10 [.val (.map none)] 34 :: h⟩) ⟨rfl, (by repeat (first | exact LeT.nil | refine LeT.cons rfl ?_ | refine LeT.consw rfl (by (repeat (first | exact Wk.refl _ | exact Wk.nilr _ | exact Wk.nilm | apply Wk.aggc | apply Wk.tupc | exact Wk.aggn | exact Wk.tupn)); first | done | fail) ?_)), .skip (.cons .here (leh_mp hd2 (.cons .here (.skip (.skip (.skip (.refl _)))))))⟩ ?_
    generalize c.map (fun p => (p.1, F p.1 p.2)) = C2 at *
    refine W.frzm (b := bc) (by (fail_if_success (apply tkG)); (repeat (first | exact Tk.here | apply Tk.there)); first | done | fail) (by repeat' (first | apply FzT.cons | exact FzT.rest _ | exact Fz.hit | apply Fz.aggc | apply Fz.tupc | exact Fz.aggn | exact Fz.tupn | exact Fz.keep _)) (by repeat' (first | apply FzH.box | apply FzH.keep | exact FzH.rest _ | exact Fz.hit | apply Fz.aggc | apply Fz.tupc | exact Fz.aggn | exact Fz.tupn | exact Fz.keep _)) ?_
    refine W.frzm (b := bn) (by (fail_if_success (apply tkG)); (repeat (first | exact Tk.here | apply Tk.there)); first | done | fail) (by repeat' (first | apply FzT.cons | exact FzT.rest _ | exact Fz.hit | apply Fz.aggc | apply Fz.tupc | exact Fz.aggn | exact Fz.tupn | exact Fz.keep _)) (by repeat' (first | apply FzH.box | apply FzH.keep | exact FzH.rest _ | exact Fz.hit | apply Fz.aggc | apply Fz.tupc | exact Fz.aggn | exact Fz.tupn | exact Fz.keep _)) ?_
    refine W.nil_ 3 120 ?_
    clear key hp hd hd2
    refine W.loop (J := fun z : Nat × Value × List CH => ⟨94, [(69, .val (.int .i64 ((z.1 : Nat)))), (68, .val (.int .i64 ((o2.length : Int)))), (67, .ro 1 (ints .u32 (o2))), (18, .val z.2.1), (13, mapV .u32 CH.enc dch), (12, mapV .u32 vIt C2), (10, .val (.pointer (some ⟨b10, 0, none⟩)))], .own z.2.1 3 (z.2.2.map CH.enc) 120 :: .box b10 [.val (.map none)] 34 :: h⟩)
      (Φ := fun z => z.1 ≤ o2.length ∧ z.2.2.length ≤ z.1) (μ := fun z => o2.length - z.1) (0, .slice none 0 0, []) lee ⟨Nat.zero_le _, Nat.le_refl _⟩ ?_
    rintro ⟨i, v1, X⟩ ⟨hi, hX⟩
    dsimp only at hi hX ⊢
    rcases Nat.lt_or_ge i o2.length with hlt | hge
    · obtain ⟨a, ha⟩ : ∃ a, o2[i]? = some a := ⟨_, List.getElem?_eq_getElem hlt⟩
      cases e : lkF dch a with
      | none =>
        (repeat' (first|refine svz ⟨fun b hq=>?_⟩|refine svA ⟨?_⟩|refine svu ⟨fun u=>?_⟩|(refine svG (fun hg=>?_) (fun hg=>?_)<;>try exact svx)|refine svh (fun hb=>?_) (fun hb=>?_)|refine svb (fun b=>?_)|fail))
        rw [show lkV CH.enc (.agg [.val (.int .u32 (0)), .val (.slice none 0 0), .val (.slice none 0 0)]) (lkF dch a) = (.agg [.val (.int .u32 (0)), .val (.slice none 0 0), .val (.slice none 0 0)]) by rw [e]; rfl, e]
        (repeat' (first|refine svz ⟨fun b hq=>?_⟩|refine svA ⟨?_⟩|refine svu ⟨fun u=>?_⟩|(refine svG (fun hg=>?_) (fun hg=>?_)<;>try exact svx)|refine svh (fun hb=>?_) (fun hb=>?_)|refine svb (fun b=>?_)|fail))
        exact ⟨(i + 1, v1, X), ⟨hlt, by dsimp only; omega⟩, lee, by dsimp only; omega⟩
      | some ch =>
        obtain ⟨ci, ck, cn⟩ := ch
        have em := empty_c cn
        unfold regE at em
        (repeat' (first|refine svz ⟨fun b hq=>?_⟩|refine svA ⟨?_⟩|refine svu ⟨fun u=>?_⟩|(refine svG (fun hg=>?_) (fun hg=>?_)<;>try exact svx)|refine svh (fun hb=>?_) (fun hb=>?_)|refine svb (fun b=>?_)|fail))
        rw [show lkV CH.enc (.agg [.val (.int .u32 (0)), .val (.slice none 0 0), .val (.slice none 0 0)]) (lkF dch a) = .agg [.val (.int .u32 (ci)), .ro 4 (ck.map RC.enc), .ro 4 (cn.map RC.enc)] by rw [e]; rfl, e]
        (repeat' (first|refine svz ⟨fun b hq=>?_⟩|refine svA ⟨?_⟩|refine svu ⟨fun u=>?_⟩|(refine svG (fun hg=>?_) (fun hg=>?_)<;>try exact svx)|refine svh (fun hb=>?_) (fun hb=>?_)|refine svb (fun b=>?_)|fail))
        refine S.call ?_; refine (em _).mono ?_; rintro r h' ⟨rfl, hh⟩; subst hh
        (repeat' (first | (refine iR2 ?_; refine r2b ?_; refine R2.one ?_) | (refine iS ?_; refine iN ?_; refine S.build1r ?_) | (refine iS ?_; refine iMu ?_; refine S.mapU ?_) | refine svz ⟨fun b hq=>?_⟩|refine svT ⟨?_⟩|refine svu ⟨fun u=>?_⟩|(refine svG (fun hg=>?_) (fun hg=>?_)<;>try exact svx)|refine svh (fun hb=>?_) (fun hb=>?_)|refine svb (fun b=>?_) | refine sva ?_ | refine sv3 ?_ | fail))
        · exact ⟨(i + 1, u, X ++ [⟨ci, ck, cn⟩]), ⟨hlt, by dsimp only; rw [List.length_append, List.length_singleton]; omega⟩, by dsimp only; rw [List.map_append]; exact lee, by dsimp only; omega⟩
        · exact ⟨(i + 1, v1, X), ⟨hlt, by dsimp only; omega⟩, lee, by dsimp only; omega⟩
    · (repeat' (first|refine svz ⟨fun b hq=>?_⟩|refine svA ⟨?_⟩|refine svu ⟨fun u=>?_⟩|(refine svG (fun hg=>?_) (fun hg=>?_)<;>try exact svx)|refine svh (fun hb=>?_) (fun hb=>?_)|refine svb (fun b=>?_)|fail))
      exact fin_r (h' := .own v1 3 (X.map CH.enc) 120 :: h) ⟨X, v1, rfl, rfl⟩
  · have hst := rng_step hp hi hpi
    have hnd := (hst.map (·.1)).nodup_iff.2 hn
    rw [List.map_append, List.map_append, List.append_assoc, List.nodup_append] at hnd
    have hnew : p.1 ∉ (done.map fun p => (p.1, F p.1 p.2)).map (·.1) := fun hm => hnd.2.2 p.1 (by rw [List.map_map] at hm; exact hm) p.1 (by simp) rfl
    have hin : p ∈ c := List.mem_of_getElem? hpi
    obtain ⟨b0, pb, cg⟩ := key p hin
    have hw := hwin p hin
    have hsn : (done ++ [p]).map (fun p => (p.1, F p.1 p.2)) = done.map (fun p => (p.1, F p.1 p.2)) ++ [(p.1, F p.1 p.2)] := by rw [List.map_append]; rfl
    have hless := rng_less hi
    obtain ⟨pi, g, gd, win, bk⟩ := p
    dsimp only at *
    subst hw
    have hp1 := putF_new (t := done.map fun p => (p.1, F p.1 p.2)) (⟨g, gd, true, bk⟩ : IT) hnew
    have hp2 := fun x : IT => putF_last (t := done.map fun p => (p.1, F p.1 p.2)) (a := (⟨g, gd, true, bk⟩ : IT)) (c := x) hnew
    clear hp hnd hin key hwin vw hnew hn
    generalize F pi ⟨g, gd, true, bk⟩ = it2 at *
    have hmv := lk_mv mv pi
    generalize mvF mv pi = sh at *
    generalize hM : done.map (fun p => (p.1, F p.1 p.2)) = M at *
    rw [show vIt (⟨g, gd, true, bk⟩ : IT) = .agg [.val (.int .i64 ((g.w : Int))), .val (.int .i64 ((g.h : Int))), .ro 1 (ints .u8 g.pix), .val (.int .u8 (gd)), .val (.bool (true)), .val (.bool (bk))] from rfl]
    rw [show vIt (⟨g, gd, true, bk⟩ : IT) = .agg [.val (.int .i64 ((g.w : Int))), .val (.int .i64 ((g.h : Int))), .ro 1 (ints .u8 g.pix), .val (.int .u8 (gd)), .val (.bool (true)), .val (.bool (bk))] from rfl] at cg
    (repeat' (first | refine svz ⟨fun b hq=>?_⟩|refine svT ⟨?_⟩|refine svu ⟨fun u=>?_⟩|(refine svG (fun hg=>?_) (fun hg=>?_)<;>try exact svx)|refine svh (fun hb=>?_) (fun hb=>?_)|refine svb (fun b=>?_) | refine sva ?_ | refine sv3 ?_ | fail))
    refine S.mapU (f := vIt) (m := M) (a := ⟨g, gd, true, bk⟩) ?_
    rw [hp1]
    (repeat' (first|refine svz ⟨fun b hq=>?_⟩|refine svA ⟨?_⟩|refine svu ⟨fun u=>?_⟩|(refine svG (fun hg=>?_) (fun hg=>?_)<;>try exact svx)|refine svh (fun hb=>?_) (fun hb=>?_)|refine svb (fun b=>?_)|fail))
    refine S.call ?_; refine (pb _).mono ?_; rintro r h' ⟨rfl, hh⟩; subst hh
    unfold vBox
    (repeat' (first|refine svz ⟨fun b hq=>?_⟩|refine svA ⟨?_⟩|refine svu ⟨fun u=>?_⟩|(refine svG (fun hg=>?_) (fun hg=>?_)<;>try exact svx)|refine svh (fun hb=>?_) (fun hb=>?_)|refine svb (fun b=>?_)|fail))
    rw [hmv]
    (repeat' (first|refine svz ⟨fun b hq=>?_⟩|refine svA ⟨?_⟩|refine svu ⟨fun u=>?_⟩|(refine svG (fun hg=>?_) (fun hg=>?_)<;>try exact svx)|refine svh (fun hb=>?_) (fun hb=>?_)|refine svb (fun b=>?_)|fail))
    refine S.call ?_
    refine (cg _).mono ?_
    rintro r h' ⟨ch, rfl, hh⟩
    subst hh
    (repeat' (first | refine svz ⟨fun b hq=>?_⟩|refine svT ⟨?_⟩|refine svu ⟨fun u=>?_⟩|(refine svG (fun hg=>?_) (fun hg=>?_)<;>try exact svx)|refine svh (fun hb=>?_) (fun hb=>?_)|refine svb (fun b=>?_) | refine sva ?_ | refine sv3 ?_ | fail))
    refine S.mapU (f := vIt) (m := M ++ [(pi, ⟨g, gd, true, bk⟩)]) (a := it2) ?_
    rw [hp2]
    (repeat' (first | refine svz ⟨fun b hq=>?_⟩|refine svT ⟨?_⟩|refine svu ⟨fun u=>?_⟩|(refine svG (fun hg=>?_) (fun hg=>?_)<;>try exact svx)|refine svh (fun hb=>?_) (fun hb=>?_)|refine svb (fun b=>?_) | refine sva ?_ | refine sv3 ?_ | fail))
    refine S.mapU (f := CH.enc) (m := dch) (a := ch) ?_
    generalize putF dch pi ch = dch2
    (repeat' (first|refine svz ⟨fun b hq=>?_⟩|refine svA ⟨?_⟩|refine svu ⟨fun u=>?_⟩|(refine svG (fun hg=>?_) (fun hg=>?_)<;>try exact svx)|refine svh (fun hb=>?_) (fun hb=>?_)|refine svb (fun b=>?_)|fail))
    exact ⟨(left.erase i, some i, done ++ [(pi, ⟨g, gd, true, bk⟩)], dch2), hst, by dsimp only; rw [hsn]; exact lee, hless⟩
end Go.Proofs.YtfbegifmhgkpjaaGreat
