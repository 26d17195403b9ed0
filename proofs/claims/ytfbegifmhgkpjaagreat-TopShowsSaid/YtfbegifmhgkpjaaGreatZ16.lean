/- screen: Show, there, Look. No condition. -/
import Derived.Test.YtfbegifmhgkpjaaGreatZ15
namespace Go.Proofs.YtfbegifmhgkpjaaGreat
open Go Go.VM
attribute [local irreducible] PurV Pur Step RL W D ACalls Then InBlock Fini
set_option linter.unusedVariables false
set_option linter.unusedSimpArgs false
set_option maxHeartbeats 20000000
def itG (c : CN) (id : Int) : GR := match lkF c id with | none => ⟨0, 0, []⟩ | some it => it.g
def sO (V : List (Int × SW)) (id : Int) : SW := (lkF V id).getD ⟨0, 0, []⟩
def stS (V : List (Int × SW)) (c : CN) (g : GR) (id : Int) : GR := g.mix (fun x y => hasR (clF V id) x y && layD (itG c id) (sO V id).x (sO V id).y x y) (layF (itG c id) (sO V id).x (sO V id).y)
theorem stS_ok {V : List (Int × SW)} {c : CN} {g : GR} {id : Int} (k : g.Ok) (k2 : (itG c id).Ok) : (stS V c g id).Ok := k.mix _ fun x y => GR.at_bd k2 _ _
theorem stS_none {V : List (Int × SW)} {c : CN} {g : GR} {id : Int} (h : clF V id = []) : stS V c g id = g := by
  unfold stS GR.mix
  rw [h]
  rw [show (fun x y => hasR [] x y && layD (itG c id) (sO V id).x (sO V id).y x y) = fun _ _ => false from rfl, mixG_none]
def shwF (V : List (Int × SW)) (c : CN) (o : List Int) (w h : Nat) : GR := o.foldl (stS V c) ⟨w, h, List.replicate (w * h) 0⟩
theorem fold_ok {V : List (Int × SW)} {c : CN} : ∀ (o : List Int) (g : GR), g.Ok → (∀ id ∈ o, (itG c id).Ok) → (o.foldl (stS V c) g).Ok
  | [], g, k, _ => k
  | id :: o, g, k, h => fold_ok o _ (stS_ok k (h id (List.mem_cons_self ..))) fun i hi => h i (List.mem_cons_of_mem _ hi)
set_option maxRecDepth 100000 in
theorem show_c (o : List Int) (V : List (Int × SW)) (c : CN) (w h : Nat) (H : Heap) (hw : 1 ≤ w ∧ w ≤ 128) (hh : 1 ≤ h ∧ h ≤ 128) (ok : VOk V) (ho : o.length ≤ 1000000) (hV : ∀ id ∈ o, ∃ s, lkF V id = some s) (hc : ∀ id ∈ o, ∃ it, lkF c id = some it ∧ it.g.Ok) :
    ACalls Tryz.prog 19 [encW o V, encC c, .val (.int .i64 ((w : Int))), .val (.int .i64 ((h : Int)))] H (fun r h' => r = .tup [encG (shwF V c o w h), .val (.int .i64 (0))] ∧ h' = H) := by
  have gn := fun H => gnew_c w h 0 H hw hh
  have vw := fun h => vwin_c o V h ho
  have g0 : (⟨w, h, List.replicate (w * h) 0⟩ : GR).Ok := gr_new_ok hw hh (by omega)
  unfold shwF
  generalize (⟨w, h, List.replicate (w * h) 0⟩ : GR) = G at *
  have key : ∀ id ∈ o, ∃ (s : SW) (it : IT), lkF V id = some s ∧ lkF c id = some it ∧ it.g.Ok ∧ itG c id = it.g ∧ sO V id = s := fun id hid => by
    obtain ⟨s, h1⟩ := hV id hid
    obtain ⟨it, h2, h3⟩ := hc id hid
    exact ⟨s, it, h1, h2, h3, by unfold itG; rw [h2], by unfold sO; rw [h1]; rfl⟩
  clear hV hc
  unfold encW encC at *
  rw [show encG G = .agg [.val (.int .i64 ((G.w : Int))), .val (.int .i64 ((G.h : Int))), .ro 1 (ints .u8 G.pix)] from rfl] at gn
  refine ACalls.intro Tryz.func19 rfl Tryz.ntmps19 Tryz.results19 (Nat.le_of_ble_eq_true rfl) ?_
  (repeat' (first|refine svz ⟨fun b hq=>?_⟩|refine svA ⟨?_⟩|refine svu ⟨fun u=>?_⟩|(refine svG (fun hg=>?_) (fun hg=>?_)<;>try exact svx)|refine svh (fun hb=>?_) (fun hb=>?_)|refine svb (fun b=>?_)|fail))
  refine S.call ?_; refine (gn _).mono ?_; rintro r h' ⟨rfl, hh⟩; subst hh
  (repeat' (first|refine svz ⟨fun b hq=>?_⟩|refine svA ⟨?_⟩|refine svu ⟨fun u=>?_⟩|(refine svG (fun hg=>?_) (fun hg=>?_)<;>try exact svx)|refine svh (fun hb=>?_) (fun hb=>?_)|refine svb (fun b=>?_)|fail))
  refine S.call ?_; refine (vw _).mono ?_; rintro r h' ⟨rfl, hh⟩; subst hh
  (repeat' (first|refine svz ⟨fun b hq=>?_⟩|refine svA ⟨?_⟩|refine svu ⟨fun u=>?_⟩|(refine svG (fun hg=>?_) (fun hg=>?_)<;>try exact svx)|refine svh (fun hb=>?_) (fun hb=>?_)|refine svb (fun b=>?_)|fail))
  rename_i b4 b5 b8
  revert b; intro b10
  refine W.loop (J := fun i : Nat => ⟨71, [(32, .val (.int .i64 ((i : Nat)))), (30, .ro 1 (ints .u32 (o))), (31, .val (.int .i64 ((o.length : Int)))), (10, .val (.pointer (some ⟨b10, 0, none⟩))), (8, .val (.pointer (some ⟨b8, 0, none⟩))), (5, .val (.pointer (some ⟨b5, 0, none⟩))), (4, .val (.pointer (some ⟨b4, 0, none⟩)))], .box b10 (encG ((o.take i).foldl (stS V c) G)).cells 88 :: .box b8 [.val (.int .i64 (0)), .val (.int .i64 (0)), .val (.slice none 0 0)] 88 :: .box b5 [mapV .u32 vIt c] 34 :: .box b4 [.ro 1 (ints .u32 (o)), mapV .u32 vSW V] 43 :: H⟩)
    (Φ := fun i => i ≤ o.length) (μ := fun i => o.length - i) 0 lee (Nat.zero_le _) ?_
  rintro i hi
  dsimp only
  have hgo : ((o.take i).foldl (stS V c) G).Ok := fold_ok _ _ g0 fun id hid => by
    obtain ⟨s, it, _, _, h3, h4, _⟩ := key id (List.mem_of_mem_take hid)
    rw [h4]; exact h3
  rcases Nat.lt_or_ge i o.length with hlt | hge
  · obtain ⟨a, ha⟩ : ∃ a, o[i]? = some a := ⟨_, List.getElem?_eq_getElem hlt⟩
    have hs : (o.take (i + 1)).foldl (stS V c) G = stS V c ((o.take i).foldl (stS V c) G) a := by
      rw [List.take_add_one, ha, Option.toList_some, List.foldl_append]; rfl
    generalize hg : (o.take i).foldl (stS V c) G = g at *
    obtain ⟨s, it, h1, h2, h3, h4, h5⟩ := key a (List.mem_of_getElem? ha)
    obtain ⟨q1, q2, q3⟩ := ok a s h1
    have vc := fun h => vclip_c o V a h
    have cg := fun h => cgrid_c c a it h h2
    have vo := fun h => vorig_c o V a s h h1
    have em := fun h => empty_c (clF V a) h
    have hclb : clF V a = s.clip := by unfold clF; rw [h1]
    have gl := fun H => glay_c g it.g s.x s.y (clF V a) H hgo h3 (by omega) (by omega) (by rw [hclb]; exact q1.can) (by rw [hclb]; have := q1.len; omega)
    have hst : stS V c g a = g.mix (fun x y => hasR (clF V a) x y && layD it.g s.x s.y x y) (layF it.g s.x s.y) := by unfold stS; rw [h4, h5]
    clear key q1 h4 h5 ok hclb h3
    unfold encW encC regE at *
    rw [show encG it.g = .agg [.val (.int .i64 ((it.g.w : Int))), .val (.int .i64 ((it.g.h : Int))), .ro 1 (ints .u8 it.g.pix)] from rfl] at *
    by_cases hz : (clF V a).length = 0
    · have hs0 : stS V c g a = g := stS_none (List.eq_nil_of_length_eq_zero hz)
      rw [decide_eq_true hz] at em
      rw [hs0] at hs
      generalize hGC : (encG g).cells = GC at *
      (repeat' (first|refine svz ⟨fun b hq=>?_⟩|refine svA ⟨?_⟩|refine svu ⟨fun u=>?_⟩|(refine svG (fun hg=>?_) (fun hg=>?_)<;>try exact svx)|refine svh (fun hb=>?_) (fun hb=>?_)|refine svb (fun b=>?_)|fail))
      refine S.call ?_; refine (vc _).mono ?_; rintro r h' ⟨rfl, hh⟩; subst hh
      (repeat' (first|refine svz ⟨fun b hq=>?_⟩|refine svA ⟨?_⟩|refine svu ⟨fun u=>?_⟩|(refine svG (fun hg=>?_) (fun hg=>?_)<;>try exact svx)|refine svh (fun hb=>?_) (fun hb=>?_)|refine svb (fun b=>?_)|fail))
      refine S.call ?_; refine (cg _).mono ?_; rintro r h' ⟨rfl, hh⟩; subst hh
      (repeat' (first|refine svz ⟨fun b hq=>?_⟩|refine svA ⟨?_⟩|refine svu ⟨fun u=>?_⟩|(refine svG (fun hg=>?_) (fun hg=>?_)<;>try exact svx)|refine svh (fun hb=>?_) (fun hb=>?_)|refine svb (fun b=>?_)|fail))
      refine S.call ?_; refine (vo _).mono ?_; rintro r h' ⟨rfl, hh⟩; subst hh
      (repeat' (first|refine svz ⟨fun b hq=>?_⟩|refine svA ⟨?_⟩|refine svu ⟨fun u=>?_⟩|(refine svG (fun hg=>?_) (fun hg=>?_)<;>try exact svx)|refine svh (fun hb=>?_) (fun hb=>?_)|refine svb (fun b=>?_)|fail))
      refine S.call ?_; refine (em _).mono ?_; rintro r h' ⟨rfl, hh⟩; subst hh
      (repeat' (first|refine svz ⟨fun b hq=>?_⟩|refine svA ⟨?_⟩|refine svu ⟨fun u=>?_⟩|(refine svG (fun hg=>?_) (fun hg=>?_)<;>try exact svx)|refine svh (fun hb=>?_) (fun hb=>?_)|refine svb (fun b=>?_)|fail))
      exact ⟨i + 1, hlt, by rw [hs, hGC]; exact lee, by omega⟩
    · rw [decide_eq_false hz] at em
      rw [← hst] at gl
      generalize stS V c g a = g2 at *
      rw [show encG g2 = .agg [.val (.int .i64 ((g2.w : Int))), .val (.int .i64 ((g2.h : Int))), .ro 1 (ints .u8 g2.pix)] from rfl] at gl
      rw [show encG g = .agg [.val (.int .i64 ((g.w : Int))), .val (.int .i64 ((g.h : Int))), .ro 1 (ints .u8 g.pix)] from rfl] at *
      (repeat' (first|refine svz ⟨fun b hq=>?_⟩|refine svA ⟨?_⟩|refine svu ⟨fun u=>?_⟩|(refine svG (fun hg=>?_) (fun hg=>?_)<;>try exact svx)|refine svh (fun hb=>?_) (fun hb=>?_)|refine svb (fun b=>?_)|fail))
      refine S.call ?_; refine (vc _).mono ?_; rintro r h' ⟨rfl, hh⟩; subst hh
      (repeat' (first|refine svz ⟨fun b hq=>?_⟩|refine svA ⟨?_⟩|refine svu ⟨fun u=>?_⟩|(refine svG (fun hg=>?_) (fun hg=>?_)<;>try exact svx)|refine svh (fun hb=>?_) (fun hb=>?_)|refine svb (fun b=>?_)|fail))
      refine S.call ?_; refine (cg _).mono ?_; rintro r h' ⟨rfl, hh⟩; subst hh
      (repeat' (first|refine svz ⟨fun b hq=>?_⟩|refine svA ⟨?_⟩|refine svu ⟨fun u=>?_⟩|(refine svG (fun hg=>?_) (fun hg=>?_)<;>try exact svx)|refine svh (fun hb=>?_) (fun hb=>?_)|refine svb (fun b=>?_)|fail))
      refine S.call ?_; refine (vo _).mono ?_; rintro r h' ⟨rfl, hh⟩; subst hh
      (repeat' (first|refine svz ⟨fun b hq=>?_⟩|refine svA ⟨?_⟩|refine svu ⟨fun u=>?_⟩|(refine svG (fun hg=>?_) (fun hg=>?_)<;>try exact svx)|refine svh (fun hb=>?_) (fun hb=>?_)|refine svb (fun b=>?_)|fail))
      refine S.call ?_; refine (em _).mono ?_; rintro r h' ⟨rfl, hh⟩; subst hh
      (repeat' (first|refine svz ⟨fun b hq=>?_⟩|refine svA ⟨?_⟩|refine svu ⟨fun u=>?_⟩|(refine svG (fun hg=>?_) (fun hg=>?_)<;>try exact svx)|refine svh (fun hb=>?_) (fun hb=>?_)|refine svb (fun b=>?_)|fail))
      refine S.call ?_; refine (gl _).mono ?_; rintro r h' ⟨rfl, hh⟩; subst hh
      (repeat' (first|refine svz ⟨fun b hq=>?_⟩|refine svA ⟨?_⟩|refine svu ⟨fun u=>?_⟩|(refine svG (fun hg=>?_) (fun hg=>?_)<;>try exact svx)|refine svh (fun hb=>?_) (fun hb=>?_)|refine svb (fun b=>?_)|fail))
      exact ⟨i + 1, hlt, by rw [hs]; exact lee, by omega⟩
  · rw [List.take_of_length_le hge] at *
    generalize o.foldl (stS V c) G = g at *
    rw [show encG g = .agg [.val (.int .i64 ((g.w : Int))), .val (.int .i64 ((g.h : Int))), .ro 1 (ints .u8 g.pix)] from rfl]
    (repeat' (first|refine svz ⟨fun b hq=>?_⟩|refine svA ⟨?_⟩|refine svu ⟨fun u=>?_⟩|(refine svG (fun hg=>?_) (fun hg=>?_)<;>try exact svx)|refine svh (fun hb=>?_) (fun hb=>?_)|refine svb (fun b=>?_)|fail))
    exact fin_r (h' := H) ⟨rfl, rfl⟩
set_option maxRecDepth 100000 in
theorem there_root (t : PW) (b0 : BW) (x y : Int) (h : Heap) (hb : lkF t 1 = some b0) (ok : b0.Ok) : ACalls Tryz.prog 103 [encP t, .val (.int .u32 (1)), .val (.int .i64 (x)), .val (.int .i64 (y))] h (fun r h' => r = .tup [.val (.int .i64 (x)), .val (.int .i64 (y)), .val (.bool (hasR (areaB b0) x y))] ∧ h' = h) := by
  have pb := fun h => pbox_c t 1 b0 h hb
  have pa := fun h => parea_c t 1 b0 h hb ok
  have ba := ok.area
  have bh := fun h => bhas_c (areaB b0) x y h (by have := ba.len; omega) ba.can.cnt ba.can.y
  clear ba
  unfold encP regE at *
  refine ACalls.intro Tryz.func103 rfl Tryz.ntmps103 Tryz.results103 (Nat.le_of_ble_eq_true rfl) ?_
  (repeat' (first|refine svz ⟨fun b hq=>?_⟩|refine svA ⟨?_⟩|refine svu ⟨fun u=>?_⟩|(refine svG (fun hg=>?_) (fun hg=>?_)<;>try exact svx)|refine svh (fun hb=>?_) (fun hb=>?_)|refine svb (fun b=>?_)|fail))
  refine S.call ?_; refine (pb _).mono ?_; rintro r h' ⟨rfl, hh⟩; subst hh
  unfold vBox
  (repeat' (first|refine svz ⟨fun b hq=>?_⟩|refine svA ⟨?_⟩|refine svu ⟨fun u=>?_⟩|(refine svG (fun hg=>?_) (fun hg=>?_)<;>try exact svx)|refine svh (fun hb=>?_) (fun hb=>?_)|refine svb (fun b=>?_)|fail))
  refine S.call ?_; refine (pa _).mono ?_; rintro r h' ⟨rfl, hh⟩; subst hh
  (repeat' (first|refine svz ⟨fun b hq=>?_⟩|refine svA ⟨?_⟩|refine svu ⟨fun u=>?_⟩|(refine svG (fun hg=>?_) (fun hg=>?_)<;>try exact svx)|refine svh (fun hb=>?_) (fun hb=>?_)|refine svb (fun b=>?_)|fail))
  refine S.call ?_; refine (bh _).mono ?_; rintro r h' ⟨rfl, hh⟩; subst hh
  (repeat' (first|refine svz ⟨fun b hq=>?_⟩|refine svA ⟨?_⟩|refine svu ⟨fun u=>?_⟩|(refine svG (fun hg=>?_) (fun hg=>?_)<;>try exact svx)|refine svh (fun hb=>?_) (fun hb=>?_)|refine svb (fun b=>?_)|fail))
  exact fin_r (h' := h) ⟨rfl, rfl⟩
set_option maxRecDepth 100000 in
theorem there_c (t : PW) (id : Int) (b0 : BW) (x y : Int) (h : Heap) (hid : id ≠ 1) (hb : lkF t id = some b0) (ok : b0.Ok) (hx : -100000 ≤ x ∧ x ≤ 100000) (hy : -100000 ≤ y ∧ y ≤ 100000) : ACalls Tryz.prog 103 [encP t, .val (.int .u32 (id)), .val (.int .i64 (x)), .val (.int .i64 (y))] h (fun r h' => r = .tup [.val (.int .i64 (if b0.m then x - b0.x else 0)), .val (.int .i64 (if b0.m then y - b0.y else 0)), .val (.bool (b0.m && hasR (areaB b0) (x - b0.x) (y - b0.y)))] ∧ h' = h) := by
  have pb := fun h => pbox_c t id b0 h hb
  have pa := fun h => parea_c t id b0 h hb ok
  have ba := ok.area
  have bh := fun h => bhas_c (areaB b0) (x - b0.x) (y - b0.y) h (by have := ba.len; omega) ba.can.cnt ba.can.y
  have h1 := ok.x
  have h2 := ok.y
  clear ba
  unfold encP regE at *
  cases hm : b0.m
  · rw [if_neg (by decide), if_neg (by decide), Bool.false_and]
    refine ACalls.intro Tryz.func103 rfl Tryz.ntmps103 Tryz.results103 (Nat.le_of_ble_eq_true rfl) ?_
    (repeat' (first|refine svz ⟨fun b hq=>?_⟩|refine svA ⟨?_⟩|refine svu ⟨fun u=>?_⟩|(refine svG (fun hg=>?_) (fun hg=>?_)<;>try exact svx)|refine svh (fun hb=>?_) (fun hb=>?_)|refine svb (fun b=>?_)|fail))
    refine S.call ?_; refine (pb _).mono ?_; rintro r h' ⟨rfl, hh⟩; subst hh
    unfold vBox
    rw [hm]
    (repeat' (first|refine svz ⟨fun b hq=>?_⟩|refine svA ⟨?_⟩|refine svu ⟨fun u=>?_⟩|(refine svG (fun hg=>?_) (fun hg=>?_)<;>try exact svx)|refine svh (fun hb=>?_) (fun hb=>?_)|refine svb (fun b=>?_)|fail))
    exact fin_r (h' := h) ⟨rfl, rfl⟩
  · rw [if_pos rfl, if_pos rfl, Bool.true_and]
    refine ACalls.intro Tryz.func103 rfl Tryz.ntmps103 Tryz.results103 (Nat.le_of_ble_eq_true rfl) ?_
    (repeat' (first|refine svz ⟨fun b hq=>?_⟩|refine svA ⟨?_⟩|refine svu ⟨fun u=>?_⟩|(refine svG (fun hg=>?_) (fun hg=>?_)<;>try exact svx)|refine svh (fun hb=>?_) (fun hb=>?_)|refine svb (fun b=>?_)|fail))
    refine S.call ?_; refine (pb _).mono ?_; rintro r h' ⟨rfl, hh⟩; subst hh
    unfold vBox
    rw [hm]
    (repeat' (first|refine svz ⟨fun b hq=>?_⟩|refine svA ⟨?_⟩|refine svu ⟨fun u=>?_⟩|(refine svG (fun hg=>?_) (fun hg=>?_)<;>try exact svx)|refine svh (fun hb=>?_) (fun hb=>?_)|refine svb (fun b=>?_)|fail))
    refine S.call ?_; refine (pa _).mono ?_; rintro r h' ⟨rfl, hh⟩; subst hh
    (repeat' (first|refine svz ⟨fun b hq=>?_⟩|refine svA ⟨?_⟩|refine svu ⟨fun u=>?_⟩|(refine svG (fun hg=>?_) (fun hg=>?_)<;>try exact svx)|refine svh (fun hb=>?_) (fun hb=>?_)|refine svb (fun b=>?_)|fail))
    refine S.call ?_; refine (bh _).mono ?_; rintro r h' ⟨rfl, hh⟩; subst hh
    (repeat' (first|refine svz ⟨fun b hq=>?_⟩|refine svA ⟨?_⟩|refine svu ⟨fun u=>?_⟩|(refine svG (fun hg=>?_) (fun hg=>?_)<;>try exact svx)|refine svh (fun hb=>?_) (fun hb=>?_)|refine svb (fun b=>?_)|fail))
    exact fin_r (h' := h) ⟨rfl, rfl⟩
theorem find_at {R : List Int} {p : Int → Bool} {m : Nat} {a : Int} (h : ∀ c ∈ R.take m, p c = false) (ha : R[m]? = some a) (hp : p a = true) : R.find? p = some a := by
  rw [← List.take_append_drop m R, List.find?_append, List.find?_eq_none.2 fun c hc => by rw [h c hc]; decide, Option.none_or, drop_at ha, List.find?_cons, hp]
theorem find_no {R : List Int} {p : Int → Bool} (h : ∀ c ∈ R, p c = false) : R.find? p = none := List.find?_eq_none.2 fun c hc => by rw [h c hc]; decide
def lookF (k : SVT) (up : UP) (t : PW) (x y : Int) : Int := topF t (ofS k) (oX up t) (oY up t) x y (up.length + 1) 1
set_option maxRecDepth 100000 in
theorem look_c (k : SVT) (up : UP) (t : PW) (c : CN) (Q : PWOk k up t) (x y : Int) (h : Heap) (hx : -1000 ≤ x ∧ x ≤ 1000) (hy : -1000 ≤ y ∧ y ≤ 1000) (hin : hasR (areaB (bxF t 1)) x y = true)
    (hc : ∀ id, hasT up id = true → ∃ it, lkF c id = some it ∧ it.g.Ok) :
    ACalls Tryz.prog 56 [encT k up, encP t, encC c, .val (.int .i64 (x)), .val (.int .i64 (y))] h (fun r h' => r = .tup [.val (.int .u8 ((itG c (lookF k up t x y)).at' (x - oX up t (lookF k up t x y)) (y - oY up t (lookF k up t x y)))), .val (.int .u32 (lookF k up t x y))] ∧ h' = h) := by
  obtain ⟨rx, ry, hroot⟩ := Q.root
  have hbr : bxF t 1 = rootB rx ry := by unfold bxF; rw [hroot]; rfl
  have ok1 := Q.ok 1 _ hroot
  rw [hbr] at hin
  have tr := fun h => there_root t _ x y h hroot ok1
  rw [hin] at tr
  obtain ⟨o1, o2⟩ := Q.o_root
  unfold encT encC encP at *
  refine ACalls.intro Tryz.func56 rfl Tryz.ntmps56 Tryz.results56 (Nat.le_of_ble_eq_true rfl) ?_
  (repeat' (first|refine svz ⟨fun b hq=>?_⟩|refine svA ⟨?_⟩|refine svu ⟨fun u=>?_⟩|(refine svG (fun hg=>?_) (fun hg=>?_)<;>try exact svx)|refine svh (fun hb=>?_) (fun hb=>?_)|refine svb (fun b=>?_)|fail))
  refine S.call ?_; refine (tr _).mono ?_; rintro r h' ⟨rfl, hh⟩; subst hh
  (repeat' (first|refine svz ⟨fun b hq=>?_⟩|refine svA ⟨?_⟩|refine svu ⟨fun u=>?_⟩|(refine svG (fun hg=>?_) (fun hg=>?_)<;>try exact svx)|refine svh (fun hb=>?_) (fun hb=>?_)|refine svb (fun b=>?_)|fail))
  rename_i b5 b6
  revert b; intro b7
  generalize hT : lookF k up t x y = T at *
  refine W.loop (J := fun z : Int × Nat => ⟨76, [(12, .val (.int .u32 (z.1))), (3, .val (.int .i64 (x - oX up t z.1))), (4, .val (.int .i64 (y - oY up t z.1))), (7, .val (.pointer (some ⟨b7, 0, none⟩))), (6, .val (.pointer (some ⟨b6, 0, none⟩))), (5, .val (.pointer (some ⟨b5, 0, none⟩)))], .box b7 [mapV .u32 vIt c] 34 :: .box b6 [mapV .u32 vBox t] 31 :: .box b5 [mapV .u32 vIds k, mapV .u32 (vI .u32) up] 28 :: h⟩)
    (Φ := fun z => hasT up z.1 = true ∧ rkF up z.1 < z.2 ∧ topF t (ofS k) (oX up t) (oY up t) x y z.2 z.1 = T) (μ := fun z => z.2) (1, up.length + 1) (by rw [o1, o2, Int.sub_zero, Int.sub_zero]; exact lee) ⟨Q.has1, by unfold rkF; dsimp only; omega, hT⟩ ?_
  rintro ⟨id, f⟩ ⟨hid, hf, hTf⟩
  dsimp only at hid hf hTf ⊢
  obtain ⟨f, rfl⟩ : ∃ g, f = g + 1 := ⟨f - 1, by omega⟩
  have hol := Q.w.ofl id
  have hul := Q.ul
  have kc := fun h => kids_c k up id h (by omega)
  have obd := Q.o_bd hid
  unfold encT at kc
  unfold topF at hTf
  have hkey : ∀ a ∈ ofS k id, ∃ b0, lkF t a = some b0 ∧ b0.Ok ∧ a ≠ 1 ∧ hasT up a = true ∧ oX up t a = oX up t id + b0.x ∧ oY up t a = oY up t id + b0.y ∧ rkF up a < rkF up id := fun a ha => by
    obtain ⟨b0, hb0⟩ := Q.bt a (Q.w.has_kid ha)
    exact ⟨b0, hb0, Q.ok a b0 hb0, Q.w.kid_ne1 ha, Q.w.has_kid ha, (Q.o_kid ha hb0).1, (Q.o_kid ha hb0).2, Q.w.rank ha⟩
  have gc := hc id hid
  generalize ofS k id = L at *
  (repeat' (first|refine svz ⟨fun b hq=>?_⟩|refine svA ⟨?_⟩|refine svu ⟨fun u=>?_⟩|(refine svG (fun hg=>?_) (fun hg=>?_)<;>try exact svx)|refine svh (fun hb=>?_) (fun hb=>?_)|refine svb (fun b=>?_)|fail))
  refine S.call ?_; refine (kc _).mono ?_; rintro r h' ⟨rfl, hh⟩; subst hh
  (repeat' (first|refine svz ⟨fun b hq=>?_⟩|refine svA ⟨?_⟩|refine svu ⟨fun u=>?_⟩|(refine svG (fun hg=>?_) (fun hg=>?_)<;>try exact svx)|refine svh (fun hb=>?_) (fun hb=>?_)|refine svb (fun b=>?_)|fail))
  refine W.loop (J := fun m : Nat => ⟨76, [(16, .val (.int .i64 ((L.length : Int) - 1 - (m : Int)))), (15, .val (.int .i64 (-1))), (14, .ro 1 (ints .u32 (L))), (12, .val (.int .u32 (id))), (3, .val (.int .i64 (x - oX up t id))), (4, .val (.int .i64 (y - oY up t id))), (7, .val (.pointer (some ⟨b7, 0, none⟩))), (6, .val (.pointer (some ⟨b6, 0, none⟩))), (5, .val (.pointer (some ⟨b5, 0, none⟩)))], .box b7 [mapV .u32 vIt c] 34 :: .box b6 [mapV .u32 vBox t] 31 :: .box b5 [mapV .u32 vIds k, mapV .u32 (vI .u32) up] 28 :: h⟩)
    (Φ := fun m => m ≤ L.length ∧ ∀ c ∈ L.reverse.take m, inW t (oX up t) (oY up t) id x y c = false) (μ := fun m => L.length - m) 0 (by rw [show (L.length : Int) - 1 - ((0 : Nat) : Int) = (L.length : Int) - 1 by omega]; exact lee) ⟨Nat.zero_le _, fun c hc => by cases hc⟩ ?_
  rintro m ⟨hm, hno⟩
  rcases Nat.lt_or_ge m L.length with hlt | hge
  · obtain ⟨a, ha⟩ : ∃ a, L[L.length - 1 - m]? = some a := ⟨_, List.getElem?_eq_getElem (by omega)⟩
    have har : L.reverse[m]? = some a := by rw [List.getElem?_reverse hlt]; exact ha
    obtain ⟨b0, hb0, ok0, ha1, hah, hox, hoy, hrk⟩ := hkey a (List.mem_of_getElem? ha)
    have tc := fun h => there_c t a b0 (x - oX up t id) (y - oY up t id) h ha1 hb0 ok0 (by omega) (by omega)
    have hinv : inW t (oX up t) (oY up t) id x y a = (b0.m && hasR (areaB b0) (x - oX up t id - b0.x) (y - oY up t id - b0.y)) := by
      unfold inW; rw [hb0]; dsimp only
      rw [show x - (oX up t id + b0.x) = x - oX up t id - b0.x by omega, show y - (oY up t id + b0.y) = y - oY up t id - b0.y by omega]
    rw [← hinv] at tc
    unfold encP at tc
    have hcc : (L.length : Int) - 1 - (m : Int) = ((L.length - 1 - m : Nat) : Int) := by omega
    rw [hcc]
    cases hia : inW t (oX up t) (oY up t) id x y a with
    | true =>
      rw [hia] at tc hinv
      have hbm : b0.m = true := by cases e : b0.m with | true => rfl | false => rw [e] at hinv; cases hinv
      rw [if_pos hbm, if_pos hbm] at tc
      rw [find_at hno har hia] at hTf
      dsimp only at hTf
      have e1 : x - oX up t a = x - oX up t id - b0.x := by omega
      have e2 : y - oY up t a = y - oY up t id - b0.y := by omega
      have hmu : L.length - 1 - m < L.length := by omega
      clear hno hinv hkey
      generalize L.length - 1 - m = q at *
      (repeat' (first|refine svz ⟨fun b hq=>?_⟩|refine svA ⟨?_⟩|refine svu ⟨fun u=>?_⟩|(refine svG (fun hg=>?_) (fun hg=>?_)<;>try exact svx)|refine svh (fun hb=>?_) (fun hb=>?_)|refine svb (fun b=>?_)|fail))
      refine R2.C (tc _) ?_
      (repeat' (first|refine svz ⟨fun b hq=>?_⟩|refine svA ⟨?_⟩|refine svu ⟨fun u=>?_⟩|(refine svG (fun hg=>?_) (fun hg=>?_)<;>try exact svx)|refine svh (fun hb=>?_) (fun hb=>?_)|refine svb (fun b=>?_)|fail))
      exact ⟨(a, f), ⟨hah, by dsimp only; omega, hTf⟩, by dsimp only; rw [e1, e2]; exact lee, by dsimp only; omega⟩
    | false =>
      rw [hia] at tc
      have hno2 : ∀ c ∈ L.reverse.take (m + 1), inW t (oX up t) (oY up t) id x y c = false := fun c hc => by
        rw [List.take_add_one, har, Option.toList_some] at hc
        rcases List.mem_append.1 hc with hc | hc
        · exact hno c hc
        · rw [List.mem_singleton.1 hc]; exact hia
      have hcd : (L.length : Int) - 1 - ((m + 1 : Nat) : Int) = ((L.length - 1 - m : Nat) : Int) - 1 := by omega
      have hmu : L.length - 1 - m < L.length := by omega
      clear hno hinv hkey hcc
      generalize (if b0.m = true then x - oX up t id - b0.x else 0) = zx at *
      generalize (if b0.m = true then y - oY up t id - b0.y else 0) = zy at *
      generalize hq : L.length - 1 - m = q at *
      (repeat' (first|refine svz ⟨fun b hq=>?_⟩|refine svA ⟨?_⟩|refine svu ⟨fun u=>?_⟩|(refine svG (fun hg=>?_) (fun hg=>?_)<;>try exact svx)|refine svh (fun hb=>?_) (fun hb=>?_)|refine svb (fun b=>?_)|fail))
      refine R2.C (tc _) ?_
      (repeat' (first|refine svz ⟨fun b hq=>?_⟩|refine svA ⟨?_⟩|refine svu ⟨fun u=>?_⟩|(refine svG (fun hg=>?_) (fun hg=>?_)<;>try exact svx)|refine svh (fun hb=>?_) (fun hb=>?_)|refine svb (fun b=>?_)|fail))
      exact ⟨m + 1, ⟨hlt, hno2⟩, by rw [hcd]; exact lee, by omega⟩
  · have e : m = L.length := by omega
    subst e
    rw [find_no (by rw [← List.length_reverse, List.take_length] at hno; exact hno)] at hTf
    dsimp only at hTf
    subst hTf
    obtain ⟨it, hit, hgo⟩ := gc
    have cg := fun h => cgrid_c c id it h hit
    have ga := fun h => gat_c it.g (x - oX up t id) (y - oY up t id) h hgo
    have hig : itG c id = it.g := by unfold itG; rw [hit]
    rw [hig]
    unfold encC encG at *
    (repeat' (first|refine svz ⟨fun b hq=>?_⟩|refine svA ⟨?_⟩|refine svu ⟨fun u=>?_⟩|(refine svG (fun hg=>?_) (fun hg=>?_)<;>try exact svx)|refine svh (fun hb=>?_) (fun hb=>?_)|refine svb (fun b=>?_)|fail))
    refine S.call ?_; refine (cg _).mono ?_; rintro r h' ⟨rfl, hh⟩; subst hh
    (repeat' (first|refine svz ⟨fun b hq=>?_⟩|refine svA ⟨?_⟩|refine svu ⟨fun u=>?_⟩|(refine svG (fun hg=>?_) (fun hg=>?_)<;>try exact svx)|refine svh (fun hb=>?_) (fun hb=>?_)|refine svb (fun b=>?_)|fail))
    refine S.call ?_; refine (ga _).mono ?_; rintro r h' ⟨rfl, hh⟩; subst hh
    (repeat' (first|refine svz ⟨fun b hq=>?_⟩|refine svA ⟨?_⟩|refine svu ⟨fun u=>?_⟩|(refine svG (fun hg=>?_) (fun hg=>?_)<;>try exact svx)|refine svh (fun hb=>?_) (fun hb=>?_)|refine svb (fun b=>?_)|fail))
    exact fin_r (h' := h) ⟨rfl, rfl⟩
end Go.Proofs.YtfbegifmhgkpjaaGreat
