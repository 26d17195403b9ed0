/- Plain: what the screen is, and what does not show. No condition. -/
import Derived.Test.YtfbegifmhgkpjaaGreatZ16
namespace Go.Proofs.YtfbegifmhgkpjaaGreat
open Go Go.VM
set_option linter.unusedVariables false
set_option linter.unusedSimpArgs false
set_option maxHeartbeats 4000000
theorem lk_of_mem {α : Type} : ∀ {t : List (Int × α)} {i : Int} {a : α}, (t.map (·.1)).Nodup → (i, a) ∈ t → lkF t i = some a
  | [], _, _, _, h => by cases h
  | (j, c) :: t, i, a, hn, h => by
    rw [List.map_cons, List.nodup_cons] at hn
    unfold lkF
    rw [List.find?_cons]
    rcases List.mem_cons.1 h with e | h
    · injection e with e1 e2
      subst e1; subst e2
      simp
    · have : j ≠ i := fun e => hn.1 (by rw [e]; exact List.mem_map.2 ⟨_, h, rfl⟩)
      rw [show decide (((j, c) : Int × α).1 = i) = false from decide_eq_false this]
      exact lk_of_mem hn.2 h
theorem lk_map {α β : Type} (f : Int → α → β) (t : List (Int × α)) (i : Int) : lkF (t.map fun p => (p.1, f p.1 p.2)) i = (lkF t i).map (f i) := by
  induction t with
  | nil => rfl
  | cons p t ih =>
    unfold lkF at ih ⊢
    rw [List.map_cons, List.find?_cons, List.find?_cons]
    by_cases h : p.1 = i
    · rw [decide_eq_true h]; subst h; rfl
    · rw [decide_eq_false h]; exact ih
theorem bel_has {k : SVT} {up : UP} (w : TW k up) : ∀ (f : Nat) (id x : Int), hasT up id = true → x ∈ belF (ofS k) f id → hasT up x = true
  | 0, _, _, _, h => by cases h
  | f + 1, id, x, hid, h => by
    unfold belF at h
    rcases List.mem_cons.1 h with rfl | h
    · exact hid
    · obtain ⟨c, h1, h2⟩ := List.mem_flatMap.1 h
      exact bel_has w f c x (w.has_kid h1) h2
theorem bel_nodup {k : SVT} {up : UP} (w : TW k up) : ∀ (f : Nat) (id : Int), (belF (ofS k) f id).Nodup
  | 0, _ => by simp [belF]
  | f + 1, id => by
    unfold belF
    have hK : ∀ p c, c ∈ ofS k p → lkF up c = some p := fun p c => (w.kid p c).1
    rw [List.nodup_cons]
    refine ⟨fun h => ?_, ?_⟩
    · obtain ⟨c, h1, h2⟩ := List.mem_flatMap.1 h
      exact w.kid_above h1 (bel_anc hK f c id h2)
    · have key : ∀ L : List Int, L.Nodup → (∀ c ∈ L, c ∈ ofS k id) → (L.flatMap (belF (ofS k) f)).Nodup := fun L => by
        induction L with
        | nil => intros; simp
        | cons c L ih =>
          intro hn hs
          rw [List.nodup_cons] at hn
          rw [List.flatMap_cons, List.nodup_append]
          refine ⟨bel_nodup w f c, ih hn.2 fun c hc => hs c (List.mem_cons_of_mem _ hc), fun x hx y hy e => ?_⟩
          subst e
          obtain ⟨c', h1, h2⟩ := List.mem_flatMap.1 hy
          have := w.apart (hs c (List.mem_cons_self ..)) (hs c' (List.mem_cons_of_mem _ h1)) (bel_anc hK f c x hx) (bel_anc hK f c' x h2)
          exact hn.1 (this ▸ h1)
      exact key _ (w.kd id) fun c hc => hc
theorem bel_len {k : SVT} {up : UP} (w : TW k up) (f : Nat) : (belF (ofS k) f 1).length ≤ up.length + 1 := by
  have := nodup_le (m := 1 :: up.map (·.1)) (bel_nodup w f 1) fun y hy => by
    have h1 := bel_has w f 1 y (by unfold hasT; simp) hy
    unfold hasT at h1
    rw [Bool.or_eq_true, decide_eq_true_iff] at h1
    rcases h1 with h1 | h1
    · cases e : lkF up y with
      | none => rw [e] at h1; cases h1
      | some p => exact List.mem_cons_of_mem _ (key_lkF e)
    · rw [h1]; exact List.mem_cons_self ..
  simpa using this
theorem top_bel {k : SVT} {up : UP} (w : TW k up) {bx : PW} {ox oy : Int → Int} {x y : Int} : ∀ (f : Nat) (id : Int), rkF up id < f → topF bx (ofS k) ox oy x y f id ∈ belF (ofS k) f id
  | 0, _, h => absurd h (Nat.not_lt_zero _)
  | f + 1, id, h => by
    unfold topF belF
    cases e : (ofS k id).reverse.find? (inW bx ox oy id x y) with
    | none => exact List.mem_cons_self ..
    | some c =>
      have hc : c ∈ ofS k id := List.mem_reverse.1 (List.mem_of_find?_eq_some e)
      exact List.mem_cons_of_mem _ (List.mem_flatMap.2 ⟨c, hc, top_bel w f c (by have := w.rank hc; unfold rkF at h ⊢; omega)⟩)
section
variable {k : SVT} {up : UP} {t : PW} (Q : PWOk k up t)
structure HG (up : UP) (t : PW) (e : Int × SW) : Prop where
  bx : Bx 0 16 e.2.clip
  x : e.2.x = oX up t e.1
  y : e.2.y = oY up t e.1
  has : hasT up e.1 = true
  ar : ∀ x y, hasR e.2.clip x y = true → ∃ b, lkF t e.1 = some b ∧ hasR (areaB b) (x - oX up t e.1) (y - oY up t e.1) = true
structure HP (up : UP) (t : PW) (id : Int) (pl lf : List RC) : Prop where
  has : hasT up id = true
  bp : Bx 0 16 pl
  bl : Bx 0 16 lf
  sub : ∀ x y, hasR lf x y = true → hasR pl x y = true
  ar : ∀ x y, hasR pl x y = true → ∃ b, lkF t id = some b ∧ hasR (areaB b) (x - oX up t id) (y - oY up t id) = true
include Q in
theorem lp_all {hd : Int → List RC → List RC → List (Int × SW)} {id : Int} {pl : List RC} (hh : ∀ c a l, HP up t c a l → ∀ e ∈ hd c a l, HG up t e) :
    ∀ (ks : List Int) (lf : List RC), (∀ c ∈ ks, c ∈ ofS k id) → HP up t id pl lf → (∀ e ∈ (lpF t (oX up t) (oY up t) hd id pl ks lf).1, HG up t e) ∧ HP up t id pl (lpF t (oX up t) (oY up t) hd id pl ks lf).2
  | [], lf, _, h => ⟨fun e he => (by cases he), h⟩
  | c :: ks, lf, hs, h => by
    have hc := hs c (List.mem_cons_self ..)
    have hs' := fun c hc => hs c (List.mem_cons_of_mem _ hc)
    obtain ⟨b0, hb0⟩ := Q.bt c (Q.w.has_kid hc)
    cases hm : b0.m with
    | false =>
      rw [lp_none hb0 hm]
      exact lp_all hh ks lf hs' h
    | true =>
      rw [lp_some hb0 hm]
      have cz := Q.can_kid hc hb0
      have hA : Bx 0 16 (kidA (oX up t) (oY up t) id b0 pl) := Bx.right cz.can h.bp
      have hB : Bx 0 16 (AndJ (kidA (oX up t) (oY up t) id b0 pl) lf) := .left (fun b => rfl) hA h.bl.can
      have hN : Bx 0 16 (NotJ lf (kidA (oX up t) (oY up t) id b0 pl)) := .left (fun b => rfl) h.bl hA.can
      have ok := Q.o_kid hc hb0
      have h1 : HP up t c (kidA (oX up t) (oY up t) id b0 pl) (AndJ (kidA (oX up t) (oY up t) id b0 pl) lf) := ⟨Q.w.has_kid hc, hA, hB, fun x y hx => by
          rw [has_join hA.can h.bl.can rfl, Bool.and_eq_true] at hx; exact hx.1, fun x y hx => by
          unfold kidA at hx
          rw [has_join cz.can h.bp.can rfl, Bool.and_eq_true, has_shF] at hx
          exact ⟨b0, hb0, by rw [ok.1, ok.2]; exact hx.1⟩⟩
      have h2 : HP up t id pl (NotJ lf (kidA (oX up t) (oY up t) id b0 pl)) := ⟨h.has, h.bp, hN, fun x y hx => by
          rw [has_join h.bl.can hA.can rfl, Bool.and_eq_true] at hx; exact h.sub x y hx.1, h.ar⟩
      have ih := lp_all hh ks _ hs' h2
      refine ⟨fun e he => ?_, ih.2⟩
      rcases List.mem_append.1 he with he | he
      · exact hh c _ _ h1 e he
      · exact ih.1 e he
include Q in
theorem hand_all : ∀ (f : Nat) (id : Int) (pl lf : List RC), HP up t id pl lf → ∀ e ∈ handF t (ofS k) (oX up t) (oY up t) f id pl lf, HG up t e
  | 0, _, _, _, _, e, he => by cases he
  | f + 1, id, pl, lf, h, e, he => by
    unfold handF at he
    have q := lp_all Q (hand_all f) (ofS k id).reverse lf (fun c hc => List.mem_reverse.1 hc) h
    rcases List.mem_append.1 he with he | he
    · exact q.1 e he
    · rw [List.mem_singleton.1 he]
      exact ⟨q.2.bl, rfl, rfl, q.2.has, fun x y hx => q.2.ar x y (q.2.sub x y hx)⟩
include Q in
theorem PWOk.hp : HP up t 1 (areaB (bxF t 1)) (areaB (bxF t 1)) := by
  obtain ⟨rx, ry, hr⟩ := Q.root
  have hb : bxF t 1 = rootB rx ry := by unfold bxF; rw [hr]; rfl
  have ok := (Q.ok 1 _ hr).area
  obtain ⟨o1, o2⟩ := Q.o_root
  rw [hb]
  exact ⟨Q.has1, ok, ok, fun x y h => h, fun x y h => ⟨_, hr, by rw [o1, o2, Int.sub_zero, Int.sub_zero]; exact h⟩⟩
include Q in
theorem PWOk.vw {id : Int} {s : SW} (h : lkF (vwF k up t) id = some s) : HG up t (id, s) := hand_all Q _ _ _ _ Q.hp _ (lkF_mem h)
include Q in
theorem PWOk.vok : VOk (vwF k up t) := fun id s h => by
  have q := Q.vw h
  have := Q.o_bd (show hasT up id = true from q.has)
  have h1 := q.x; have h2 := q.y
  dsimp only at h1 h2
  exact ⟨q.bx, by omega, by omega⟩
include Q in
theorem PWOk.onP {w h : Int} (hr : lkF t 1 = some (rootB w h)) {x y : Int} (hx : 0 ≤ x ∧ x < w) (hy : 0 ≤ y ∧ y < h) :
    hasR (areaB (bxF t 1)) x y = true ∧ (∀ id s, lkF (vwF k up t) id = some s → hasR s.clip x y = true → id = lookF k up t x y) ∧ ∃ s, lkF (vwF k up t) (lookF k up t x y) = some s ∧ hasR s.clip x y = true := by
  have hb : bxF t 1 = rootB w h := by unfold bxF; rw [hr]; rfl
  have ok := Q.ok 1 _ hr
  have hA : hasR (areaB (bxF t 1)) x y = true := by
    rw [hb, ok.area_has]
    show ((!false || hasR [] x y) && decide ((0 ≤ x ∧ x < w) ∧ 0 ≤ y ∧ y < h)) = true
    rw [decide_eq_true ⟨hx, hy⟩]; rfl
  have hc : Can (areaB (bxF t 1)) := Q.hp.bp.can
  have := hand_on (bx := t) (K := ofS k) (ox := oX up t) (oy := oY up t) (x := x) (y := y) (rkF up) (fun id kid hk => Q.w.rank hk) (fun id kid b hk hb => (Q.can_kid hk hb).can) (up.length + 1) 1 _ _ (by unfold rkF; omega) hc hc hA hA
  refine ⟨hA, fun id s h1 h2 => this.1 (id, s) (lkF_mem h1) h2, ?_⟩
  obtain ⟨s, h1, h2⟩ := this.2
  exact ⟨s, lk_of_mem (hand_nodup Q.w _ _ _ _) h1, h2⟩
end
structure CI (up : UP) (c : CN) : Prop where
  cn : (c.map (·.1)).Nodup
  cl : c.length ≤ 1000
  ci : ∀ id it, lkF c id = some it → hasT up id = true ∧ it.g.Ok ∧ (0 ≤ it.gd ∧ it.gd ≤ 255) ∧ it.win = true ∧ it.bk = decide (id = 1)
  ch : ∀ id, hasT up id = true → ∃ it, lkF c id = some it
def CSz (t : PW) (c : CN) : Prop := ∀ id it b, lkF c id = some it → lkF t id = some b → b.w = it.g.w ∧ b.h = it.g.h
def CGr (V : List (Int × SW)) (c : CN) : Prop := ∀ id it, lkF c id = some it → it.bk = false → ∀ x y, it.g.has x y → hasR (visF V id) x y = false → it.g.at' x y = it.gd
theorem fold_at {V : List (Int × SW)} {c : CN} {x y : Int} {T : Int} : ∀ (o : List Int) (g : GR), g.Ok → g.has x y → (∀ id ∈ o, (itG c id).Ok) → (∀ id ∈ o, hasR (clF V id) x y = true → id = T ∧ (itG c T).has (x - (sO V T).x) (y - (sO V T).y)) →
    (o.foldl (stS V c) g).at' x y = if T ∈ o ∧ hasR (clF V T) x y = true then (itG c T).at' (x - (sO V T).x) (y - (sO V T).y) else g.at' x y
  | [], g, k, hp, _, _ => by simp
  | id :: o, g, k, hp, h1, h2 => by
    have ho := fold_at o (stS V c g id) (stS_ok k (h1 id (List.mem_cons_self ..))) hp (fun i hi => h1 i (List.mem_cons_of_mem _ hi)) (fun i hi => h2 i (List.mem_cons_of_mem _ hi))
    rw [List.foldl_cons, ho]
    have hs : (stS V c g id).at' x y = if (hasR (clF V id) x y && layD (itG c id) (sO V id).x (sO V id).y x y) = true then (itG c id).at' (x - (sO V id).x) (y - (sO V id).y) else g.at' x y := by
      unfold stS
      rw [GR.mix_at k _ _ hp]
      rfl
    by_cases hT : T ∈ o ∧ hasR (clF V T) x y = true
    · rw [if_pos hT, if_pos ⟨List.mem_cons_of_mem _ hT.1, hT.2⟩]
    · rw [if_neg hT, hs]
      cases e : hasR (clF V id) x y with
      | false =>
        rw [Bool.false_and, if_neg (by decide), if_neg]
        rintro ⟨q1, q2⟩
        rcases List.mem_cons.1 q1 with rfl | q1
        · rw [e] at q2; cases q2
        · exact hT ⟨q1, q2⟩
      | true =>
        obtain ⟨rfl, q2⟩ := h2 id (List.mem_cons_self ..) e
        rw [Bool.true_and, show layD (itG c id) (sO V id).x (sO V id).y x y = true from decide_eq_true q2, if_pos rfl, if_pos ⟨List.mem_cons_self .., e⟩]
section
variable {k : SVT} {up : UP} {t : PW} {c : CN} (Q : PWOk k up t) (C : CI up c) (Z : CSz t c)
theorem CI.itG (C : CI up c) {id : Int} (h : hasT up id = true) : ∃ it, lkF c id = some it ∧ it.g.Ok ∧ itG c id = it.g := by
  obtain ⟨it, h1⟩ := C.ch id h
  exact ⟨it, h1, (C.ci id it h1).2.1, by unfold Proofs.YtfbegifmhgkpjaaGreat.itG; rw [h1]⟩
theorem or_mem {id : Int} (h : id ∈ orF k up t) : (∃ s, lkF (vwF k up t) id = some s) ∧ id ∈ belF (ofS k) (up.length + 1) 1 := by
  unfold orF at h
  have h1 := List.mem_filter.1 h
  exact ⟨by cases e : lkF (vwF k up t) id with | none => rw [e] at h1; cases h1.2 | some s => exact ⟨s, rfl⟩, h1.1⟩
include Q C Z
theorem shw_at {w h : Nat} (hr : lkF t 1 = some (rootB w h)) {x y : Nat} (hx : x < w) (hy : y < h) :
    (shwF (vwF k up t) c (orF k up t) w h).at' x y = (itG c (lookF k up t x y)).at' (x - oX up t (lookF k up t x y)) (y - oY up t (lookF k up t x y)) := by
  obtain ⟨hA, hu, s, hs, hsx⟩ := Q.onP hr (x := x) (y := y) (by omega) (by omega)
  have ok1 := Q.ok 1 _ hr
  have kw := ok1.w; have kh := ok1.h
  unfold rootB at kw kh
  dsimp only at kw kh
  generalize hT : lookF k up t x y = T at *
  have hg := Q.vw hs
  obtain ⟨it, hit, hgo, hig⟩ := C.itG hg.has
  have hso : sO (vwF k up t) T = s := by unfold sO; rw [hs]; rfl
  have hcl : clF (vwF k up t) T = s.clip := by unfold clF; rw [hs]
  have hin : (itG c T).has (x - (sO (vwF k up t) T).x) (y - (sO (vwF k up t) T).y) := by
    obtain ⟨b, hb, har⟩ := hg.ar x y hsx
    have ob := Q.ok T b hb
    dsimp only at hb har
    rw [ob.area_has, Bool.and_eq_true, decide_eq_true_iff] at har
    have hz := Z T it b hit hb
    have e1 := hg.x; have e2 := hg.y
    dsimp only at e1 e2
    rw [hso, hig, e1, e2]
    unfold GR.has
    omega
  have hmem : T ∈ orF k up t := by
    unfold orF
    refine List.mem_filter.2 ⟨?_, by rw [hs]; rfl⟩
    rw [← hT]
    exact top_bel Q.w _ _ (by unfold rkF; omega)
  have hf := fold_at (V := vwF k up t) (c := c) (x := (x : Int)) (y := (y : Int)) (T := T) (orF k up t) ⟨w, h, List.replicate (w * h) 0⟩ (gr_new_ok (by omega) (by omega) (by omega)) ⟨⟨by omega, by dsimp only; omega⟩, by omega, by dsimp only; omega⟩
    (fun id hid => by
      obtain ⟨it, _, h2, h3⟩ := C.itG (bel_has Q.w _ _ _ Q.has1 (or_mem hid).2)
      rw [h3]; exact h2)
    (fun id hid hh => by
      obtain ⟨s', hs'⟩ := (or_mem hid).1
      have : id = T := hu id s' hs' (by unfold clF at hh; rw [hs'] at hh; exact hh)
      exact ⟨this, hin⟩)
  unfold shwF
  rw [hf, if_pos ⟨hmem, by rw [hcl]; exact hsx⟩, hso, hg.x, hg.y]
end
theorem new_at {w h : Nat} {p x y : Int} (k : (⟨w, h, List.replicate (w * h) p⟩ : GR).Ok) (hh : (⟨w, h, List.replicate (w * h) p⟩ : GR).has x y) : (⟨w, h, List.replicate (w * h) p⟩ : GR).at' x y = p := by
  obtain ⟨a, c, rfl, rfl, h1, _, _, _, _⟩ := has_nat k hh
  rw [GR.at_nat hh]
  dsimp only at h1 ⊢
  rw [List.getD_eq_getElem?_getD, List.getElem?_replicate, if_pos h1]; rfl
section
variable {up : UP} {t : PW} {c : CN} {V V2 : List (Int × SW)} {mv : List (Int × SHF)}
structure MvOk (mv : List (Int × SHF)) : Prop where
  ok : ∀ id, (mvF mv id).Ok
  root : lkF mv 1 = none
theorem CI.iok (C : CI up c) (M : MvOk mv) (hb : ∀ id, hasT up id = true → ∃ b, lkF t id = some b ∧ b.Ok) (hz : ∀ it b, lkF c 1 = some it → lkF t 1 = some b → b.w = it.g.w ∧ b.h = it.g.h) : ∀ p ∈ c, IOk t mv p.1 p.2 := fun p hp => by
  have hl := lk_of_mem C.cn (show (p.1, p.2) ∈ c from hp)
  obtain ⟨h1, h2, h3, h4, h5⟩ := C.ci _ _ hl
  obtain ⟨b, hb1, hb2⟩ := hb _ h1
  refine ⟨h2, h3, h4, ⟨b, hb1, hb2, fun hk => ?_⟩, M.ok _⟩
  rw [h5, decide_eq_true_iff] at hk
  rw [hk] at hl hb1
  obtain ⟨q1, q2⟩ := hz _ _ hl hb1
  exact ⟨q1, q2, by rw [hk]; exact M.root⟩
theorem lk_chC (id : Int) : lkF (chC V V2 t mv c) id = (lkF c id).map (chgI V V2 t mv id) := lk_map _ c id
theorem CI.change (C : CI up c) (hb : ∀ id, hasT up id = true → ∃ b, lkF t id = some b ∧ b.Ok) : CI up (chC V V2 t mv c) := by
  refine ⟨by unfold chC; rw [List.map_map]; exact C.cn, by unfold chC; rw [List.length_map]; exact C.cl, fun id it h => ?_, fun id h => ?_⟩
  · rw [lk_chC] at h
    obtain ⟨it0, h0, rfl⟩ := Option.map_eq_some_iff.1 h
    obtain ⟨h1, h2, h3, h4, h5⟩ := C.ci _ _ h0
    obtain ⟨b, hb1, hb2⟩ := hb _ h1
    have hbx : bxF t id = b := by unfold bxF; rw [hb1]; rfl
    have kw := hb2.w; have kh := hb2.h
    unfold chgI
    split
    · exact ⟨h1, h2, h3, h4, h5⟩
    · rename_i hk
      have hk : it0.bk = false := by simpa using hk
      rw [hbx]
      exact ⟨h1, chgG_ok (by omega) (by omega) h3 h2, h3, h4, by rw [← h5, hk]⟩
  · obtain ⟨it, h1⟩ := C.ch id h
    exact ⟨_, by rw [lk_chC, h1]; rfl⟩
theorem sz_change (C : CI up c) (hb : ∀ id, hasT up id = true → ∃ b, lkF t id = some b ∧ b.Ok) (hz : ∀ it b, lkF c 1 = some it → lkF t 1 = some b → b.w = it.g.w ∧ b.h = it.g.h) : CSz t (chC V V2 t mv c) := fun id it b h hb2 => by
  rw [lk_chC] at h
  obtain ⟨it0, h0, rfl⟩ := Option.map_eq_some_iff.1 h
  obtain ⟨h1, h2, h3, h4, h5⟩ := C.ci _ _ h0
  unfold chgI
  split
  · rename_i hk
    rw [h5, decide_eq_true_iff] at hk
    subst hk
    exact hz it0 b h0 hb2
  · have hbx : bxF t id = b := by unfold bxF; rw [hb2]; rfl
    obtain ⟨b', hb1, hok⟩ := hb _ h1
    rw [hb1] at hb2
    obtain rfl := Option.some.inj hb2
    have kw := hok.w; have kh := hok.h
    rw [hbx]
    unfold chgG
    split
    · dsimp only; omega
    · unfold GR.mix; dsimp only; omega
theorem gr_change (C : CI up c) (hb : ∀ id, hasT up id = true → ∃ b, lkF t id = some b ∧ b.Ok) (ok : VOk V) (ok2 : VOk V2) (M : MvOk mv) : CGr V2 (chC V V2 t mv c) := fun id it h hk x y hh hv => by
  rw [lk_chC] at h
  obtain ⟨it0, h0, rfl⟩ := Option.map_eq_some_iff.1 h
  obtain ⟨h1, h2, h3, h4, h5⟩ := C.ci _ _ h0
  unfold chgI at hk hh ⊢
  split
  · rename_i hb
    rw [if_pos hb, hb] at hk; cases hk
  · rename_i hnb
    rw [if_neg hnb] at hh
    obtain ⟨b', hb1, hok⟩ := hb _ h1
    have hbx : bxF t id = b' := by unfold bxF; rw [hb1]; rfl
    have kw := hok.w; have kh := hok.h
    rw [hbx] at hh ⊢
    have kn : (⟨b'.w.toNat, b'.h.toNat, List.replicate (b'.w.toNat * b'.h.toNat) it0.gd⟩ : GR).Ok := gr_new_ok (by omega) (by omega) h3
    dsimp only at hh ⊢
    unfold chgG at hh ⊢
    split
    · rename_i hf
      rw [if_pos hf] at hh
      exact new_at kn hh
    · rename_i hf
      rw [if_neg hf] at hh
      have hs := M.ok id
      have hkp : hasR (kpF V V2 id (mvF mv id).dx (mvF mv id).dy false) x y = false := by
        unfold kpF
        rw [if_neg (by decide), has_join (Zx.vis ok2 id).can (vis_sh ok id (by have := hs.x; omega) (by have := hs.y; omega)).can rfl, hv, Bool.false_and]
      rw [GR.mix_at kn _ _ hh, hkp, Bool.false_and, if_neg (by decide)]
      exact new_at kn hh
end
end Go.Proofs.YtfbegifmhgkpjaaGreat
