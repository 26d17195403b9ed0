/- Canvases: with, add, Open, Grid, Ground, Clip, Lay. No condition. -/
import Derived.Test.YtfbegifmhgkpjaaGreatVM37
import Derived.Test.YtfbegifmhgkpjaaGreatZ9
namespace Go.Proofs.YtfbegifmhgkpjaaGreat
open Go Go.VM
attribute [local irreducible] PurV Pur Step RL W D ACalls Then InBlock Fini
set_option linter.unusedVariables false
set_option linter.unusedSimpArgs false
set_option maxHeartbeats 20000000
structure IT where
  (g : GR) (gd : Int) (win bk : Bool)
def vIt (i : IT) : AV := .agg [.val (.int .i64 ((i.g.w : Int))), .val (.int .i64 ((i.g.h : Int))), .ro 1 (ints .u8 i.g.pix), .val (.int .u8 (i.gd)), .val (.bool (i.win)), .val (.bool (i.bk))]
abbrev CN := List (Int × IT)
def encC (c : CN) : AV := .agg [mapV .u32 vIt c]
set_option maxRecDepth 100000 in
theorem icpy_c (bm : Nat) (s : CN) (h : Heap) (hn : (s.map (·.1)).Nodup) : ACalls Tryz.prog 117 [.val (.map (some bm)), mapV .u32 vIt s] (mpV bm .u32 vIt ([] : CN) :: h) (fun r h' => r = .tup [] ∧ h' = mpV bm .u32 vIt s :: h) := by
  refine ACalls.intro Tryz.func117 rfl Tryz.ntmps117 Tryz.results117 (Nat.le_of_ble_eq_true rfl) ?_
  (repeat' (first|refine svz ⟨fun b hq=>?_⟩|refine svA ⟨?_⟩|refine svu ⟨fun u=>?_⟩|(refine svG (fun hg=>?_) (fun hg=>?_)<;>try exact svx)|refine svh (fun hb=>?_) (fun hb=>?_)|refine svb (fun b=>?_)|fail))
  revert b; intro b7
  refine W.loop (J := fun x : List Nat × Option Nat × CN => ⟨16, [(7, .val (.pointer (some ⟨b7, 0, none⟩))), (0, .val (.map (some bm)))], mitV b7 .u32 vIt s x.1 x.2.1 :: mpV bm .u32 vIt x.2.2 :: h⟩)
    (Φ := fun x => (x.2.2 ++ remL s x.1).Perm s) (μ := fun x => x.1.length) (List.range s.length, none, []) lee (rng_start s) ?_
  rintro ⟨left, last, done⟩ hp
  dsimp only at hp ⊢
  (repeat' (first|refine svz ⟨fun b hq=>?_⟩|refine svA ⟨?_⟩|refine svu ⟨fun u=>?_⟩|(refine svG (fun hg=>?_) (fun hg=>?_)<;>try exact svx)|refine svh (fun hb=>?_) (fun hb=>?_)|refine svb (fun b=>?_)|fail))
  refine S.next (fun hl => ?_) (fun i p hi hpi => ?_)
  · have hd := rng_end hp hl
    (repeat' (first|refine svz ⟨fun b hq=>?_⟩|refine svA ⟨?_⟩|refine svu ⟨fun u=>?_⟩|(refine svG (fun hg=>?_) (fun hg=>?_)<;>try exact svx)|refine svh (fun hb=>?_) (fun hb=>?_)|refine svb (fun b=>?_)|fail))
    exact fin_n (h' := mpV bm .u32 vIt s :: h) ⟨rfl, rfl⟩ (h2 := .skip (leh_mp hd (.refl _)))
  · have hst := rng_step hp hi hpi
    have hnd := (hst.map (·.1)).nodup_iff.2 hn
    rw [List.map_append, List.map_append, List.append_assoc, List.nodup_append] at hnd
    have hnew : p.1 ∉ done.map (·.1) := fun hm => hnd.2.2 p.1 hm p.1 (by simp) rfl
    obtain ⟨pi, pit⟩ := p
    unfold vIt at *
    (repeat' (first | refine svz ⟨fun b hq=>?_⟩|refine svT ⟨?_⟩|refine svu ⟨fun u=>?_⟩|(refine svG (fun hg=>?_) (fun hg=>?_)<;>try exact svx)|refine svh (fun hb=>?_) (fun hb=>?_)|refine svb (fun b=>?_) | refine sva ?_ | refine sv3 ?_ | fail))
    refine S.mapU (f := vIt) (m := done) (a := pit) ?_
    rw [putF_new pit hnew]
    (repeat' (first|refine svz ⟨fun b hq=>?_⟩|refine svA ⟨?_⟩|refine svu ⟨fun u=>?_⟩|(refine svG (fun hg=>?_) (fun hg=>?_)<;>try exact svx)|refine svh (fun hb=>?_) (fun hb=>?_)|refine svb (fun b=>?_)|fail))
    exact ⟨(left.erase i, some i, done ++ [(pi, pit)]), hst, lee, rng_less hi⟩
set_option maxRecDepth 100000 in
theorem with_c (c : CN) (id : Int) (it : IT) (h : Heap) (hn : (c.map (·.1)).Nodup) (hl : c.length ≤ 100000) : ACalls Tryz.prog 81 [encC c, .val (.int .u32 (id)), vIt it] h (fun r h' => r = encC (putF c id it) ∧ h' = h) := by
  have cp := fun bm h => icpy_c bm c h hn
  rw [show vIt it = (.agg [.val (.int .i64 (((it).g.w : Int))), .val (.int .i64 (((it).g.h : Int))), .ro 1 (ints .u8 (it).g.pix), .val (.int .u8 ((it).gd)), .val (.bool ((it).win)), .val (.bool ((it).bk))]) from rfl]
  unfold encC
  refine ACalls.intro Tryz.func81 rfl Tryz.ntmps81 Tryz.results81 (Nat.le_of_ble_eq_true rfl) ?_
  (repeat' (first|refine svz ⟨fun b hq=>?_⟩|refine svA ⟨?_⟩|refine svu ⟨fun u=>?_⟩|(refine svG (fun hg=>?_) (fun hg=>?_)<;>try exact svx)|refine svh (fun hb=>?_) (fun hb=>?_)|refine svb (fun b=>?_)|fail))
  rename_i b3 b5
  revert b; intro b6
  refine S.mkm vIt (fun bm => ?_)
  (repeat' (first|refine svz ⟨fun b hq=>?_⟩|refine svA ⟨?_⟩|refine svu ⟨fun u=>?_⟩|(refine svG (fun hg=>?_) (fun hg=>?_)<;>try exact svx)|refine svh (fun hb=>?_) (fun hb=>?_)|refine svb (fun b=>?_)|fail))
  refine S.call ?_
  refine (cp bm _).mono ?_
  rintro r h' ⟨rfl, hh⟩
  subst hh
  (repeat' (first | refine svz ⟨fun b hq=>?_⟩|refine svT ⟨?_⟩|refine svu ⟨fun u=>?_⟩|(refine svG (fun hg=>?_) (fun hg=>?_)<;>try exact svx)|refine svh (fun hb=>?_) (fun hb=>?_)|refine svb (fun b=>?_) | refine sva ?_ | refine sv3 ?_ | fail))
  refine S.mapU (f := vIt) (m := c) (a := it) ?_
  generalize putF c id it = c2
  refine RL.nil ?_
  refine W.frzm (b := bm) (by (fail_if_success (apply tkG)); (repeat (first | exact Tk.here | apply Tk.there)); first | done | fail) (by repeat' (first | apply FzT.cons | exact FzT.rest _ | exact Fz.hit | apply Fz.aggc | apply Fz.tupc | exact Fz.aggn | exact Fz.tupn | exact Fz.keep _)) (by repeat' (first | apply FzH.box | apply FzH.keep | exact FzH.rest _ | exact Fz.hit | apply Fz.aggc | apply Fz.tupc | exact Fz.aggn | exact Fz.tupn | exact Fz.keep _)) ?_
  (repeat' (first|refine svz ⟨fun b hq=>?_⟩|refine svA ⟨?_⟩|refine svu ⟨fun u=>?_⟩|(refine svG (fun hg=>?_) (fun hg=>?_)<;>try exact svx)|refine svh (fun hb=>?_) (fun hb=>?_)|refine svb (fun b=>?_)|fail))
  exact fin_r (h' := h) ⟨rfl, rfl⟩
theorem lk_it {c : CN} {id : Int} {it : IT} (e : lkF c id = some it) : lkV vIt (.agg [.val (.int .i64 (0)), .val (.int .i64 (0)), .val (.slice none 0 0), .val (.int .u8 (0)), .val (.bool (false)), .val (.bool (false))]) (lkF c id) = (.agg [.val (.int .i64 (((it).g.w : Int))), .val (.int .i64 (((it).g.h : Int))), .ro 1 (ints .u8 (it).g.pix), .val (.int .u8 ((it).gd)), .val (.bool ((it).win)), .val (.bool ((it).bk))]) := by rw [e]; rfl
set_option maxRecDepth 100000 in
theorem add_c' (c : CN) (id : Int) (w h : Nat) (gd : Int) (bk : Bool) (H : Heap) (h0 : 0 ≤ id) (h1 : id ≤ 4294967295) (hic : icF id = 0) (hno : lkF c id = none) (hn : (c.map (·.1)).Nodup) (hl : c.length ≤ 1000) (hw : 1 ≤ w ∧ w ≤ 128) (hh : 1 ≤ h ∧ h ≤ 128) :
    ACalls Tryz.prog 80 [encC c, .val (.int .u32 (id)), .val (.int .i64 ((w : Int))), .val (.int .i64 ((h : Int))), .agg [.val (.int .i64 (0)), .val (.int .i64 (0)), .val (.slice none 0 0), .val (.int .u8 (gd)), .val (.bool (true)), .val (.bool (bk))]] H (fun r h' => r = .tup [encC (putF c id ⟨⟨w, h, List.replicate (w * h) gd⟩, gd, true, bk⟩), .val (.int .i64 (0))] ∧ h' = H) := by
  have ic := fun h => icheck_c id h h0 h1
  rw [hic] at ic
  have gn := fun H => gnew_c w h gd H hw hh
  have wc := fun H => with_c c id ⟨⟨w, h, List.replicate (w * h) gd⟩, gd, true, bk⟩ H hn (by omega)
  generalize hit : (⟨⟨w, h, List.replicate (w * h) gd⟩, gd, true, bk⟩ : IT) = it at *
  have ev : vIt it = .agg [.val (.int .i64 ((w : Int))), .val (.int .i64 ((h : Int))), .ro 1 (ints .u8 (List.replicate (w * h) gd)), .val (.int .u8 (gd)), .val (.bool (true)), .val (.bool (bk))] := by rw [← hit]; rfl
  rw [ev] at wc
  unfold encG at gn
  dsimp only at gn
  generalize List.replicate (w * h) gd = px at *
  generalize putF c id it = c2 at *
  unfold encC at *
  refine ACalls.intro Tryz.func80 rfl Tryz.ntmps80 Tryz.results80 (Nat.le_of_ble_eq_true rfl) ?_
  (repeat' (first|refine svz ⟨fun b hq=>?_⟩|refine svA ⟨?_⟩|refine svu ⟨fun u=>?_⟩|(refine svG (fun hg=>?_) (fun hg=>?_)<;>try exact svx)|refine svh (fun hb=>?_) (fun hb=>?_)|refine svb (fun b=>?_)|fail))
  refine S.call ?_; refine (ic _).mono ?_; rintro r h' ⟨rfl, hh⟩; subst hh
  (repeat' (first|refine svz ⟨fun b hq=>?_⟩|refine svA ⟨?_⟩|refine svu ⟨fun u=>?_⟩|(refine svG (fun hg=>?_) (fun hg=>?_)<;>try exact svx)|refine svh (fun hb=>?_) (fun hb=>?_)|refine svb (fun b=>?_)|fail))
  refine S.call ?_; refine (gn _).mono ?_; rintro r h' ⟨rfl, hh⟩; subst hh
  (repeat' (first|refine svz ⟨fun b hq=>?_⟩|refine svA ⟨?_⟩|refine svu ⟨fun u=>?_⟩|(refine svG (fun hg=>?_) (fun hg=>?_)<;>try exact svx)|refine svh (fun hb=>?_) (fun hb=>?_)|refine svb (fun b=>?_)|fail))
  rw [show lkV vIt (.agg [.val (.int .i64 (0)), .val (.int .i64 (0)), .val (.slice none 0 0), .val (.int .u8 (0)), .val (.bool (false)), .val (.bool (false))]) (lkF c id) = (.agg [.val (.int .i64 (0)), .val (.int .i64 (0)), .val (.slice none 0 0), .val (.int .u8 (0)), .val (.bool (false)), .val (.bool (false))]) by rw [hno]; rfl, hno]
  (repeat' (first|refine svz ⟨fun b hq=>?_⟩|refine svA ⟨?_⟩|refine svu ⟨fun u=>?_⟩|(refine svG (fun hg=>?_) (fun hg=>?_)<;>try exact svx)|refine svh (fun hb=>?_) (fun hb=>?_)|refine svb (fun b=>?_)|fail))
  refine S.store_any ?_ (hl := Nat.le_of_ble_eq_true rfl)
  (repeat' (first|refine svz ⟨fun b hq=>?_⟩|refine svA ⟨?_⟩|refine svu ⟨fun u=>?_⟩|(refine svG (fun hg=>?_) (fun hg=>?_)<;>try exact svx)|refine svh (fun hb=>?_) (fun hb=>?_)|refine svb (fun b=>?_)|fail))
  refine S.call ?_; refine (wc _).mono ?_; rintro r h' ⟨rfl, hh⟩; subst hh
  (repeat' (first|refine svz ⟨fun b hq=>?_⟩|refine svA ⟨?_⟩|refine svu ⟨fun u=>?_⟩|(refine svG (fun hg=>?_) (fun hg=>?_)<;>try exact svx)|refine svh (fun hb=>?_) (fun hb=>?_)|refine svb (fun b=>?_)|fail))
  exact fin_r (h' := H) ⟨rfl, rfl⟩
set_option maxRecDepth 100000 in
theorem copen_c (c : CN) (id : Int) (w h : Nat) (gd : Int) (bk : Bool) (H : Heap) (h0 : 0 ≤ id) (h1 : id ≤ 4294967295) (hic : icF id = 0) (hno : lkF c id = none) (hn : (c.map (·.1)).Nodup) (hl : c.length ≤ 1000) (hw : 1 ≤ w ∧ w ≤ 128) (hh : 1 ≤ h ∧ h ≤ 128) :
    ACalls Tryz.prog 29 [encC c, .val (.int .u32 (id)), .val (.int .i64 ((w : Int))), .val (.int .i64 ((h : Int))), .val (.int .u8 (gd)), .val (.bool (bk))] H (fun r h' => r = .tup [encC (putF c id ⟨⟨w, h, List.replicate (w * h) gd⟩, gd, true, bk⟩), .val (.int .i64 (0))] ∧ h' = H) := by
  have ac := fun H => add_c' c id w h gd bk H h0 h1 hic hno hn hl hw hh
  generalize putF c id _ = c2 at *
  unfold encC at *
  refine ACalls.intro Tryz.func29 rfl Tryz.ntmps29 Tryz.results29 (Nat.le_of_ble_eq_true rfl) ?_
  (repeat' (first|refine svz ⟨fun b hq=>?_⟩|refine svA ⟨?_⟩|refine svu ⟨fun u=>?_⟩|(refine svG (fun hg=>?_) (fun hg=>?_)<;>try exact svx)|refine svh (fun hb=>?_) (fun hb=>?_)|refine svb (fun b=>?_)|fail))
  refine S.call ?_; refine (ac _).mono ?_; rintro r h' ⟨rfl, hh⟩; subst hh
  (repeat' (first|refine svz ⟨fun b hq=>?_⟩|refine svA ⟨?_⟩|refine svu ⟨fun u=>?_⟩|(refine svG (fun hg=>?_) (fun hg=>?_)<;>try exact svx)|refine svh (fun hb=>?_) (fun hb=>?_)|refine svb (fun b=>?_)|fail))
  exact fin_r (h' := H) ⟨rfl, rfl⟩
set_option maxRecDepth 100000 in
theorem cgrid_c (c : CN) (id : Int) (it : IT) (h : Heap) (e : lkF c id = some it) : ACalls Tryz.prog 43 [encC c, .val (.int .u32 (id))] h (fun r h' => r = .tup [encG it.g, .val (.bool (true))] ∧ h' = h) := by
  have el := lk_it e
  unfold encC encG
  refine ACalls.intro Tryz.func43 rfl Tryz.ntmps43 Tryz.results43 (Nat.le_of_ble_eq_true rfl) ?_
  (repeat' (first|refine svz ⟨fun b hq=>?_⟩|refine svA ⟨?_⟩|refine svu ⟨fun u=>?_⟩|(refine svG (fun hg=>?_) (fun hg=>?_)<;>try exact svx)|refine svh (fun hb=>?_) (fun hb=>?_)|refine svb (fun b=>?_)|fail))
  rw [el, e]
  (repeat' (first|refine svz ⟨fun b hq=>?_⟩|refine svA ⟨?_⟩|refine svu ⟨fun u=>?_⟩|(refine svG (fun hg=>?_) (fun hg=>?_)<;>try exact svx)|refine svh (fun hb=>?_) (fun hb=>?_)|refine svb (fun b=>?_)|fail))
  exact fin_r (h' := h) ⟨rfl, rfl⟩
set_option maxRecDepth 100000 in
theorem cground_c (c : CN) (id : Int) (it : IT) (h : Heap) (e : lkF c id = some it) (hw : it.win = true) : ACalls Tryz.prog 57 [encC c, .val (.int .u32 (id))] h (fun r h' => r = .tup [.val (.int .u8 (it.gd)), .val (.bool (it.bk)), .val (.bool (true))] ∧ h' = h) := by
  have el := lk_it e
  unfold encC
  refine ACalls.intro Tryz.func57 rfl Tryz.ntmps57 Tryz.results57 (Nat.le_of_ble_eq_true rfl) ?_
  (repeat' (first|refine svz ⟨fun b hq=>?_⟩|refine svA ⟨?_⟩|refine svu ⟨fun u=>?_⟩|(refine svG (fun hg=>?_) (fun hg=>?_)<;>try exact svx)|refine svh (fun hb=>?_) (fun hb=>?_)|refine svb (fun b=>?_)|fail))
  rw [el, e, hw]
  (repeat' (first|refine svz ⟨fun b hq=>?_⟩|refine svA ⟨?_⟩|refine svu ⟨fun u=>?_⟩|(refine svG (fun hg=>?_) (fun hg=>?_)<;>try exact svx)|refine svh (fun hb=>?_) (fun hb=>?_)|refine svb (fun b=>?_)|fail))
  exact fin_r (h' := h) ⟨rfl, rfl⟩
set_option maxRecDepth 100000 in
theorem clay_c (c : CN) (id : Int) (it : IT) (g : GR) (h : Heap) (e : lkF c id = some it) (hw : g.w = it.g.w) (hh : g.h = it.g.h) (hn : (c.map (·.1)).Nodup) (hl : c.length ≤ 100000) :
    ACalls Tryz.prog 30 [encC c, .val (.int .u32 (id)), encG g] h (fun r h' => r = .tup [encC (putF c id { it with g := g }), .val (.int .i64 (0))] ∧ h' = h) := by
  have el := lk_it e
  have wc := fun H => with_c c id { it with g := g } H hn hl
  have ev : vIt { it with g := g } = .agg [.val (.int .i64 ((g.w : Int))), .val (.int .i64 ((g.h : Int))), .ro 1 (ints .u8 g.pix), .val (.int .u8 (it.gd)), .val (.bool (it.win)), .val (.bool (it.bk))] := rfl
  rw [ev] at wc
  generalize putF c id _ = c2 at *
  have s1 := gsize_c it.g
  have s2 := gsize_c g
  rw [hw, hh] at s2
  unfold encC encG at *
  rw [hw, hh] at *
  refine ACalls.intro Tryz.func30 rfl Tryz.ntmps30 Tryz.results30 (Nat.le_of_ble_eq_true rfl) ?_
  (repeat' (first|refine svz ⟨fun b hq=>?_⟩|refine svA ⟨?_⟩|refine svu ⟨fun u=>?_⟩|(refine svG (fun hg=>?_) (fun hg=>?_)<;>try exact svx)|refine svh (fun hb=>?_) (fun hb=>?_)|refine svb (fun b=>?_)|fail))
  rw [el, e]
  (repeat' (first|refine svz ⟨fun b hq=>?_⟩|refine svA ⟨?_⟩|refine svu ⟨fun u=>?_⟩|(refine svG (fun hg=>?_) (fun hg=>?_)<;>try exact svx)|refine svh (fun hb=>?_) (fun hb=>?_)|refine svb (fun b=>?_)|fail))
  refine S.call ?_; refine (s1 _).mono ?_; rintro r h' ⟨rfl, hh⟩; subst hh
  (repeat' (first|refine svz ⟨fun b hq=>?_⟩|refine svA ⟨?_⟩|refine svu ⟨fun u=>?_⟩|(refine svG (fun hg=>?_) (fun hg=>?_)<;>try exact svx)|refine svh (fun hb=>?_) (fun hb=>?_)|refine svb (fun b=>?_)|fail))
  refine S.call ?_; refine (s2 _).mono ?_; rintro r h' ⟨rfl, hh⟩; subst hh
  (repeat' (first|refine svz ⟨fun b hq=>?_⟩|refine svA ⟨?_⟩|refine svu ⟨fun u=>?_⟩|(refine svG (fun hg=>?_) (fun hg=>?_)<;>try exact svx)|refine svh (fun hb=>?_) (fun hb=>?_)|refine svb (fun b=>?_)|fail))
  refine S.store_any ?_ (hl := Nat.le_of_ble_eq_true rfl)
  (repeat' (first|refine svz ⟨fun b hq=>?_⟩|refine svA ⟨?_⟩|refine svu ⟨fun u=>?_⟩|(refine svG (fun hg=>?_) (fun hg=>?_)<;>try exact svx)|refine svh (fun hb=>?_) (fun hb=>?_)|refine svb (fun b=>?_)|fail))
  refine S.call ?_; refine (wc _).mono ?_; rintro r h' ⟨rfl, hh⟩; subst hh
  (repeat' (first|refine svz ⟨fun b hq=>?_⟩|refine svA ⟨?_⟩|refine svu ⟨fun u=>?_⟩|(refine svG (fun hg=>?_) (fun hg=>?_)<;>try exact svx)|refine svh (fun hb=>?_) (fun hb=>?_)|refine svb (fun b=>?_)|fail))
  exact fin_r (h' := h) ⟨rfl, rfl⟩
set_option maxRecDepth 100000 in
theorem cclipB_c (c : CN) (o : List Int) (V : List (Int × SW)) (t : PW) (id : Int) (it : IT) (b0 : BW) (h : Heap) (e : lkF c id = some it) (hw : it.win = true) (hb : it.bk = true) (hb0 : lkF t id = some b0) (ok : b0.Ok) :
    ACalls Tryz.prog 42 [encC c, encW o V, encP t, .val (.int .u32 (id))] h (fun r h' => r = .tup [regE (areaB b0), .val (.bool (true))] ∧ h' = h) := by
  have el := lk_it e
  have pa := fun h => parea_c t id b0 h hb0 ok
  unfold encC encW encP regE at *
  refine ACalls.intro Tryz.func42 rfl Tryz.ntmps42 Tryz.results42 (Nat.le_of_ble_eq_true rfl) ?_
  (repeat' (first|refine svz ⟨fun b hq=>?_⟩|refine svA ⟨?_⟩|refine svu ⟨fun u=>?_⟩|(refine svG (fun hg=>?_) (fun hg=>?_)<;>try exact svx)|refine svh (fun hb=>?_) (fun hb=>?_)|refine svb (fun b=>?_)|fail))
  rw [el, e, hw, hb]
  (repeat' (first|refine svz ⟨fun b hq=>?_⟩|refine svA ⟨?_⟩|refine svu ⟨fun u=>?_⟩|(refine svG (fun hg=>?_) (fun hg=>?_)<;>try exact svx)|refine svh (fun hb=>?_) (fun hb=>?_)|refine svb (fun b=>?_)|fail))
  refine S.call ?_; refine (pa _).mono ?_; rintro r h' ⟨rfl, hh⟩; subst hh
  (repeat' (first|refine svz ⟨fun b hq=>?_⟩|refine svA ⟨?_⟩|refine svu ⟨fun u=>?_⟩|(refine svG (fun hg=>?_) (fun hg=>?_)<;>try exact svx)|refine svh (fun hb=>?_) (fun hb=>?_)|refine svb (fun b=>?_)|fail))
  exact fin_r (h' := h) ⟨rfl, rfl⟩
set_option maxRecDepth 100000 in
theorem cclipN_c (c : CN) (o : List Int) (V : List (Int × SW)) (t : PW) (id : Int) (it : IT) (h : Heap) (e : lkF c id = some it) (hw : it.win = true) (hb : it.bk = false) (ok : VOk V) :
    ACalls Tryz.prog 42 [encC c, encW o V, encP t, .val (.int .u32 (id))] h (fun r h' => r = .tup [regE (visF V id), .val (.bool (true))] ∧ h' = h) := by
  have el := lk_it e
  have vi := fun h => visible_c o V id h ok
  unfold encC encW encP regE at *
  refine ACalls.intro Tryz.func42 rfl Tryz.ntmps42 Tryz.results42 (Nat.le_of_ble_eq_true rfl) ?_
  (repeat' (first|refine svz ⟨fun b hq=>?_⟩|refine svA ⟨?_⟩|refine svu ⟨fun u=>?_⟩|(refine svG (fun hg=>?_) (fun hg=>?_)<;>try exact svx)|refine svh (fun hb=>?_) (fun hb=>?_)|refine svb (fun b=>?_)|fail))
  rw [el, e, hw, hb]
  (repeat' (first|refine svz ⟨fun b hq=>?_⟩|refine svA ⟨?_⟩|refine svu ⟨fun u=>?_⟩|(refine svG (fun hg=>?_) (fun hg=>?_)<;>try exact svx)|refine svh (fun hb=>?_) (fun hb=>?_)|refine svb (fun b=>?_)|fail))
  refine S.call ?_; refine (vi _).mono ?_; rintro r h' ⟨rfl, hh⟩; subst hh
  (repeat' (first|refine svz ⟨fun b hq=>?_⟩|refine svA ⟨?_⟩|refine svu ⟨fun u=>?_⟩|(refine svG (fun hg=>?_) (fun hg=>?_)<;>try exact svx)|refine svh (fun hb=>?_) (fun hb=>?_)|refine svb (fun b=>?_)|fail))
  exact fin_r (h' := h) ⟨rfl, rfl⟩
end Go.Proofs.YtfbegifmhgkpjaaGreat
