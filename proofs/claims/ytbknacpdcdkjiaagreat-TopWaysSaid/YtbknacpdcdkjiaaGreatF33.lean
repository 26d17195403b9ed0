import Derived.Test.YtbknacpdcdkjiaaGreatF48
import Derived.Test.YtbknacpdcdkjiaaGreatVM39
import Derived.Test.YtbknacpdcdkjiaaGreatF3
import Derived.Test.YtbknacpdcdkjiaaGreatF9
/- Who is in, behind what is said. No condition. -/
namespace Go.Proofs.YtbknacpdcdkjiaaGreat
open Go Go.VM
attribute [local irreducible] PurV Pur Step RL W D ACalls Then InBlock Fini
set_option linter.unusedVariables false
set_option linter.unusedSimpArgs false
set_option maxHeartbeats 20000000
abbrev BMp := List (Int × Bool)
def vB (q : Bool) : AV := AV.val (.bool (q))
def getm (m : BMp) (x : Int) : Bool := (lkF m x).getD false
theorem getm_put (m : BMp) (s : CS3) : getm (putF m s.1 (s.2.1 || decide (s.2.2 = 2))) = stI (getm m) s := by
  funext x
  unfold getm stI
  rw [lk_put]
  split <;> rfl
set_option maxRecDepth 100000 in
theorem wtold_c (bm : Nat) (m : BMp) (ST : List CS3) (TT : List AV) (H : Heap) (hl : TT.length = ST.length) (hll : ST.length ≤ 1000000)
    (hT : ∀ (j : Nat) id en de, ST[j]? = some (id, en, de) → ∃ NL : List Int, TT[j]? = some (.agg [AV.val (.int .i64 (1)), AV.val (.int .i64 (2)), AV.val (.int .i64 ((if en = true then 6 else 7))), AV.val (.int .i64 (0)), .ro 1 (ints .i64 (NL)), .val (.string ⟨#[]⟩), .val (.slice none 0 0)]) ∧ NL.length = 8 ∧ NL[0]? = some id ∧ NL[1]? = some de)
    (hids : ∀ st ∈ ST, 0 ≤ st.1 ∧ st.1 ≤ 4294967295) (ok : okL (getm m) ST) :
    ACalls Tryz.prog 18 [.val (.map (some bm)), .ro 7 TT] (mpV bm .u32 vB m :: H) (fun r h' => ∃ m', r = AV.val (.bool (true)) ∧ h' = mpV bm .u32 vB m' :: H ∧ getm m' = ST.foldl stI (getm m)) := by
  refine ACalls.intro Tryz.func18 rfl Tryz.ntmps18 Tryz.results18 (Nat.le_of_ble_eq_true rfl) ?_
  (repeat' (first|refine svz ⟨fun b hq=>?_⟩|refine svA ⟨?_⟩|refine svu ⟨fun u=>?_⟩|(refine svG (fun hg9=>?_) (fun hg9=>?_)<;>try exact svx)|refine svh (fun hb=>?_) (fun hb=>?_)|refine svb (fun b=>?_)|fail))
  refine W.loop (J := fun z : Nat × BMp => ⟨74, [(12, AV.val (.int .i64 ((z.1 : Nat)))), (11, AV.val (.int .i64 ((TT.length : Nat)))), (10, .ro 7 TT), (0, .val (.map (some bm)))], mpV bm .u32 vB z.2 :: H⟩)
    (Φ := fun z => z.1 ≤ ST.length ∧ okL (getm z.2) (ST.drop z.1) ∧ (ST.drop z.1).foldl stI (getm z.2) = ST.foldl stI (getm m)) (μ := fun z => ST.length - z.1) (0, m) lee ⟨Nat.zero_le _, ok, rfl⟩ ?_
  rintro ⟨i, m1⟩ ⟨hi, hok, hf⟩
  dsimp only at hi hok hf ⊢
  rcases Nat.lt_or_ge i ST.length with hlt | hge
  · obtain ⟨⟨id, en, de⟩, hst⟩ : ∃ st, ST[i]? = some st := ⟨_, List.getElem?_eq_getElem hlt⟩
    obtain ⟨NL, hat, h8, hn0, hn1⟩ := hT i id en de hst
    have hid := hids _ (List.mem_of_getElem? hst)
    have hd : ST.drop i = (id, en, de) :: ST.drop (i + 1) := by
      rw [List.drop_eq_getElem_cons hlt]; congr 1; rw [List.getElem?_eq_getElem hlt] at hst; injection hst
    rw [hd] at hok hf
    have hnx : okL (getm (putF m1 id (en || decide (de = 2)))) (ST.drop (i + 1)) := by rw [getm_put m1 (id, en, de)]; exact hok.2
    have hfx : (ST.drop (i + 1)).foldl stI (getm (putF m1 id (en || decide (de = 2)))) = ST.foldl stI (getm m) := by rw [getm_put m1 (id, en, de)]; exact hf
    have hok1 := hok.1
    unfold okI at hok1
    dsimp only at hok1 hid
    clear hT hids hok hf hd hst ok
    unfold getm at hok1
    by_cases h2 : de = 2
    · rw [if_pos h2] at hok1
      cases en with
      | true => simp only [↓reduceIte, Bool.false_eq_true, Bool.not_true, Bool.not_false, Bool.true_or, Bool.false_or] at hat hok1 hnx hfx; (repeat' (first|refine svz ⟨fun b hq=>?_⟩|refine svA ⟨?_⟩|refine svu ⟨fun u=>?_⟩|(refine svG (fun hg9=>?_) (fun hg9=>?_)<;>try exact svx)|refine svh (fun hb=>?_) (fun hb=>?_)|refine svb (fun b=>?_)|fail)); all_goals first | (exfalso; rw [hok1] at hb; cases hb; done) | (exfalso; revert hb; rw [hok1]; simp; done) | exact ⟨(i + 1, putF m1 id (true)), ⟨hlt, hnx, hfx⟩, lee, by dsimp only; omega⟩
      | false => simp only [↓reduceIte, Bool.false_eq_true, Bool.not_true, Bool.not_false, Bool.true_or, Bool.false_or] at hat hok1 hnx hfx; (repeat' (first|refine svz ⟨fun b hq=>?_⟩|refine svA ⟨?_⟩|refine svu ⟨fun u=>?_⟩|(refine svG (fun hg9=>?_) (fun hg9=>?_)<;>try exact svx)|refine svh (fun hb=>?_) (fun hb=>?_)|refine svb (fun b=>?_)|fail)); all_goals first | (exfalso; rw [hok1] at hb; cases hb; done) | (exfalso; revert hb; rw [hok1]; simp; done) | exact ⟨(i + 1, putF m1 id (decide (de = 2))), ⟨hlt, hnx, hfx⟩, lee, by dsimp only; omega⟩
    · rw [if_neg h2] at hok1
      have hok1 : (lkF m1 id).getD false = !en := by cases en <;> simpa using hok1
      cases en with
      | true => simp only [↓reduceIte, Bool.false_eq_true, Bool.not_true, Bool.not_false, Bool.true_or, Bool.false_or] at hat hok1 hnx hfx; (repeat' (first|refine svz ⟨fun b hq=>?_⟩|refine svA ⟨?_⟩|refine svu ⟨fun u=>?_⟩|(refine svG (fun hg9=>?_) (fun hg9=>?_)<;>try exact svx)|refine svh (fun hb=>?_) (fun hb=>?_)|refine svb (fun b=>?_)|fail)); all_goals first | (exfalso; rw [hok1] at hb; cases hb; done) | (exfalso; revert hb; rw [hok1]; simp; done) | exact ⟨(i + 1, putF m1 id (true)), ⟨hlt, hnx, hfx⟩, lee, by dsimp only; omega⟩
      | false => simp only [↓reduceIte, Bool.false_eq_true, Bool.not_true, Bool.not_false, Bool.true_or, Bool.false_or] at hat hok1 hnx hfx; (repeat' (first|refine svz ⟨fun b hq=>?_⟩|refine svA ⟨?_⟩|refine svu ⟨fun u=>?_⟩|(refine svG (fun hg9=>?_) (fun hg9=>?_)<;>try exact svx)|refine svh (fun hb=>?_) (fun hb=>?_)|refine svb (fun b=>?_)|fail)); all_goals first | (exfalso; rw [hok1] at hb; cases hb; done) | (exfalso; revert hb; rw [hok1]; simp; done) | exact ⟨(i + 1, putF m1 id (decide (de = 2))), ⟨hlt, hnx, hfx⟩, lee, by dsimp only; omega⟩
  · rw [List.drop_of_length_le hge] at hf
    (repeat' (first|refine svz ⟨fun b hq=>?_⟩|refine svA ⟨?_⟩|refine svu ⟨fun u=>?_⟩|(refine svG (fun hg9=>?_) (fun hg9=>?_)<;>try exact svx)|refine svh (fun hb=>?_) (fun hb=>?_)|refine svb (fun b=>?_)|fail))
    exact fin_r (h' := mpV bm .u32 vB m1 :: H) ⟨m1, rfl, rfl, hf⟩
end Go.Proofs.YtbknacpdcdkjiaaGreat

/- What holds between two acts of TopWays; motion and change. No condition. -/
namespace Go.Proofs.YtbknacpdcdkjiaaGreat
open Go Go.VM
attribute [local irreducible] PurV Pur Step RL W D ACalls Then InBlock Fini
set_option linter.unusedVariables false
set_option linter.unusedSimpArgs false
set_option maxHeartbeats 20000000
structure WInv (wd hg : Int) (i : Nat) (s : RT) : Prop where
  ok : s.Ok
  ids : IdOk s.up
  vin : VIn wd hg s.up s.o s.V
  un : hasT s.up s.un = true
  xy : (0 ≤ s.x ∧ s.x < wd) ∧ 0 ≤ s.y ∧ s.y < hg
  fw : s.fw = 0
  pg : s.p.g = false
  qg : s.q.g = false
  pw : s.p.ws = []
  qw : s.q.ws = []
  pf : s.p.f = false
  ps : s.p.s = false
  po : s.p.a.ow = false
  pa : 0 ≤ s.p.a.w ∧ s.p.a.w ≤ 4294967295
  ct : 0 ≤ s.ct ∧ s.ct ≤ i
  nw : 0 ≤ s.nw ∧ s.nw ≤ i
  w16 : ∀ id, whoF s.M id 16 = []
  w32 : ∀ id, hasT s.up id = true → whoF s.M id 32 = [1] ∧ whoF s.M id 64 = [1]
theorem findF_no {M : CM} {N : CS} {m : Int} (h : ∀ id, whoF M id (msk m) = []) : ∀ L, findF M N m L = (0, [])
  | [] => rfl
  | id :: L => by
    unfold findF
    rw [if_neg (by rw [h id]; simp)]
    split
    · rfl
    · exact findF_no h L
theorem msk_16 : msk 16 = 16 := by decide +kernel
theorem WInv.mot {wd hg : Int} {i : Nat} {s : RT} (k : WInv wd hg i s) (inp : IN) (st ch sx sy : Int) : motF s inp st ch sx sy = [] := by
  unfold motF namesF
  rw [if_pos (show (s.dv true).g = false from k.pg), findF_no (fun id => by rw [msk_16]; exact k.w16 id)]
  rfl
def motS (s : RT) (t x y n : Int) : RT := ((s.cn (s.ct + 1) (max s.nw t)).xy x y).ud n
theorem WInv.moved {wd hg : Int} {i : Nat} {s : RT} (k : WInv wd hg i s) {t x y n : Int} (ht : 0 ≤ t ∧ t ≤ i) (hxy : (0 ≤ x ∧ x < wd) ∧ 0 ≤ y ∧ y < hg) (hn : hasT s.up n = true) : WInv wd hg (i + 1) (motS s t x y n) := by
  have h1 := k.ct; have h2 := k.nw
  refine ⟨⟨k.ok.tw, k.ok.ul, k.ok.vo, k.ok.ol⟩, k.ids, k.vin, hn, hxy, k.fw, k.pg, k.qg, k.pw, k.qw, k.pf, k.ps, k.po, k.pa, ?_, ?_, k.w16, k.w32⟩
  · show 0 ≤ s.ct + 1 ∧ s.ct + 1 ≤ _; omega
  · show 0 ≤ max s.nw t ∧ max s.nw t ≤ _; omega
theorem WInv.stay {wd hg : Int} {i : Nat} {s : RT} (k : WInv wd hg i s) {n : Int} (hn : hasT s.up n = true) : WInv wd hg (i + 1) (s.ud n) := by
  have h1 := k.ct; have h2 := k.nw
  refine ⟨⟨k.ok.tw, k.ok.ul, k.ok.vo, k.ok.ol⟩, k.ids, k.vin, hn, k.xy, k.fw, k.pg, k.qg, k.pw, k.qw, k.pf, k.ps, k.po, k.pa, ?_, ?_, k.w16, k.w32⟩
  · show 0 ≤ s.ct ∧ s.ct ≤ _; omega
  · show 0 ≤ s.nw ∧ s.nw ≤ _; omega
def RT.vw (s : RT) (o : List Int) (V : List (Int × SW)) : RT := { s with o := o, V := V }
theorem WInv.view {wd hg : Int} {i : Nat} {s : RT} (k : WInv wd hg i s) {o : List Int} {V : List (Int × SW)} (v : VIn wd hg s.up o V) : WInv wd hg i (s.vw o V) :=
  ⟨⟨k.ok.tw, k.ok.ul, v.vo, v.ol⟩, k.ids, v, k.un, k.xy, k.fw, k.pg, k.qg, k.pw, k.qw, k.pf, k.ps, k.po, k.pa, k.ct, k.nw, k.w16, k.w32⟩
theorem pick_fedP (s : RT) (i : IN) (hpw : s.p.ws = []) (hqw : s.q.ws = []) (hpf : s.p.f = false) (hps : s.p.s = false) : pickF (fedF s true i) = some (true, s.p.wait [], i.num (s.ct + 1)) := by
  have e1 : (fedF s true i).q.next = none := DV.next_nil hqw
  have e2 : (fedF s true i).p.next = some (s.p.wait [], i.num (s.ct + 1)) := by
    show (s.p.wait (s.p.ws ++ [i.num (s.ct + 1)])).next = _
    rw [hpw]
    unfold DV.next
    show (if s.p.f = true then none else some (if (s.p.s && _) = true then _ else (s.p.wait _).wait [], _)) = _
    rw [hpf, hps]; rfl
  unfold pickF
  rw [e1, e2]
theorem mot_c {wd hg : Int} {j : Nat} {s : RT} (k : WInv wd hg j s) (i : IN) (h : Heap) (hk : i.k = 5) (hc : i.c = 0) (ht : 0 ≤ i.t ∧ i.t ≤ j) (hj : j ≤ 1000) (hix : I64 i.x) (hiy : I64 i.y) :
    ACalls Tryz.prog 11 [s.enc, i.enc] h (fun r h' => (∃ x y n, ((0 ≤ x ∧ x < wd) ∧ 0 ≤ y ∧ y < hg) ∧ atF s.o s.V x y = some n ∧ hasT s.up n = true ∧ r = .tup [(motS s i.t x y n).enc, .ro 7 ((crsF ((s.cn (s.ct + 1) (max s.nw i.t)).xy x y) n).map SD.enc), AV.val (.int .i64 (0))]) ∧ h' = h) := by
  have h1 := k.ct; have h2 := k.nw
  refine (step5_c (fun s' L => (s' = fedF s true i ∧ L = []) ∨ ∃ x y n, ((0 ≤ x ∧ x < wd) ∧ 0 ≤ y ∧ y < hg) ∧ atF s.o s.V x y = some n ∧ hasT s.up n = true ∧ s' = motS s i.t x y n ∧ L = crsF ((s.cn (s.ct + 1) (max s.nw i.t)).xy x y) n) ?_ ?_ s i h hk hc (by omega) (by omega) (by omega) (by rw [k.pw]; decide) (.inl ⟨rfl, rfl⟩)).mono ?_
  · rintro s' L (⟨rfl, rfl⟩ | ⟨x, y, n, _, _, _, rfl, rfl⟩)
    · refine ⟨?_, ?_⟩
      · show (s.p.ws ++ [_]).length ≤ _; rw [k.pw]; simp
      · show s.q.ws.length ≤ _; rw [k.qw]; decide
    · refine ⟨?_, ?_⟩
      · show s.p.ws.length ≤ _; rw [k.pw]; decide
      · show s.q.ws.length ≤ _; rw [k.qw]; decide
  · rintro s' L p n j' (⟨rfl, rfl⟩ | ⟨x, y, n', _, _, _, rfl, rfl⟩) hp
    · rw [pick_fedP s i k.pw k.qw k.pf k.ps] at hp
      injection hp with hp
      injection hp with e1 hp
      injection hp with e2 e3
      subst e1 e2 e3
      have eh : hldF ((fedF s true i).dv true) (s.p.wait []) (i.num (s.ct + 1)) = s.p := by
        unfold hldF
        rw [show ((fedF s true i).dv true).s = false from k.ps, if_neg (by simp)]
        exact DV.wait_nil k.pw
      rw [eh]
      have es : (fedF s true i).setd true s.p = s.cn (s.ct + 1) (max s.nw i.t) := rfl
      rw [es]
      refine (take_c (by show 1 ≤ i.k ∧ i.k ≤ 5; omega) (R := fun s' l => ∃ x y n ch sx sy, ((0 ≤ x ∧ x < wd) ∧ 0 ≤ y ∧ y < hg) ∧ atF s.o s.V x y = some n ∧ hasT s.up n = true ∧ s' = ((s.cn (s.ct + 1) (max s.nw i.t)).xy x y).ud n ∧ l = crsF ((s.cn (s.ct + 1) (max s.nw i.t)).xy x y) n ++ motF (((s.cn (s.ct + 1) (max s.nw i.t)).xy x y).ud n) (i.num (s.ct + 1)) (stF (s.cn (s.ct + 1) (max s.nw i.t))) ch sx sy) ?_).mono ?_
      · rw [show (kdF (i.num (s.ct + 1)).k).fn = 79 by show (kdF i.k).fn = _; rw [hk]; rfl]
        exact motion_t (s.cn (s.ct + 1) (max s.nw i.t)) (i.num (s.ct + 1)) [] [] wd hg ⟨k.ok.tw, k.ok.ul, k.ok.vo, k.ok.ol⟩ k.ids k.vin k.un hk k.po k.pa (by show 0 ≤ max s.nw i.t ∧ max s.nw i.t ≤ _; omega) ⟨ht.1, by show i.t ≤ _; omega⟩ (by simp) hix hiy
      · rintro s' l ⟨x, y, n, ch, sx, sy, q1, q2, q3, rfl, rfl⟩
        have em := (k.moved (t := i.t) (x := x) (y := y) (n := n) ⟨ht.1, ht.2⟩ q1 q3).mot (i.num (s.ct + 1)) (stF (s.cn (s.ct + 1) (max s.nw i.t))) ch sx sy
        refine ⟨.inr ⟨x, y, n, q1, q2, q3, rfl, ?_⟩, ?_⟩
        · rw [List.nil_append]
          unfold motS at em
          rw [em, List.append_nil]
        · show s.p.ws.length + s.q.ws.length < (s.p.ws ++ [_]).length + s.q.ws.length
          simp
    · exfalso
      rw [pick_nil (s := motS s i.t x y n') k.pw k.qw] at hp
      cases hp
  · rintro r h' ⟨⟨s', L, (⟨rfl, rfl⟩ | ⟨x, y, n, q1, q2, q3, rfl, rfl⟩), hn, rfl⟩, rfl⟩
    · exfalso
      rw [pick_fedP s i k.pw k.qw k.pf k.ps] at hn
      cases hn
    · exact ⟨⟨x, y, n, q1, q2, q3, rfl⟩, rfl⟩
def crE (s : RT) (st : CS3) : SD := ⟨1, if st.2.1 then 6 else 7, [st.1, st.2.2, lessF s.x (orgF s.V st.1).1, lessF s.y (orgF s.V st.1).2, s.x, s.y, stF s, s.nw]⟩
theorem crs_one {s : RT} (w : TW s.k s.up) (hw : ∀ id, hasT s.up id = true → whoF s.M id 32 = [1] ∧ whoF s.M id 64 = [1]) {n : Int} (hu : hasT s.up s.un = true) (hn : hasT s.up n = true) : crsF s n = (crossF s.up s.un n).map (crE s) := by
  have key : ∀ L : List CS3, (∀ st ∈ L, hasT s.up st.1 = true) → L.flatMap (crsC s) = L.map (crE s) := fun L => by
    induction L with
    | nil => intro _; rfl
    | cons st L ih =>
      intro h
      rw [List.flatMap_cons, List.map_cons, ih fun q hq => h q (List.mem_cons_of_mem _ hq)]
      have := hw st.1 (h st (List.mem_cons_self ..))
      unfold crsC
      cases e : st.2.1 with
      | true => simp only [↓reduceIte, this.1, List.map_cons, List.map_nil]; unfold crE; rw [e]; rfl
      | false => simp only [Bool.false_eq_true, ↓reduceIte, this.2, List.map_cons, List.map_nil]; unfold crE; rw [e]; rfl
  exact key _ (crossF_has w hu hn)
end Go.Proofs.YtbknacpdcdkjiaaGreat

/- Plain: the windows of TopFocus, one by one. No condition. -/
namespace Go.Proofs.YtbknacpdcdkjiaaGreat
open Go Go.VM
set_option linter.unusedVariables false
set_option linter.unusedSimpArgs false
set_option linter.unusedSectionVars false
set_option maxHeartbeats 4000000
theorem putK_len {α : Type} (t : List (KY × α)) (i : KY) (a : α) : (putK t i a).length ≤ t.length + 1 := by
  unfold putK
  split <;> simp
theorem putK_nodup {α : Type} {t : List (KY × α)} (i : KY) (a : α) (h : (t.map (·.1)).Nodup) : ((putK t i a).map (·.1)).Nodup := by
  cases e : lkK t i with
  | some x =>
    unfold putK
    rw [e]
    simp only [Option.isSome_some, if_true]
    have : (t.map fun p => if p.1 = i then (i, a) else p).map (·.1) = t.map (·.1) := by
      rw [List.map_map]
      refine List.map_congr_left fun p _ => ?_
      show (if p.1 = i then (i, a) else p).1 = p.1
      split
      · rename_i e; exact e.symm
      · rfl
    rw [this]; exact h
  | none =>
    have hn : i ∉ t.map (·.1) := fun hm => by
      obtain ⟨p, h1, h2⟩ := List.mem_map.1 hm
      exact lkK_none.1 e p h1 h2
    rw [putK_new a hn, List.map_append, List.nodup_append]
    exact ⟨h, by simp, fun x hx y hy => by simp at hy; subst hy; exact fun e => hn (e ▸ hx)⟩
structure FW where
  (u : Int) (m : Bool) (c : Int) (st : Bool) (x y : Int)
structure FW.Ok (w : FW) : Prop where
  u : 0 ≤ w.u ∧ w.u ≤ 255
  c : 0 ≤ w.c ∧ w.c ≤ 255
  x : -128 ≤ w.x ∧ w.x ≤ 127
  y : -128 ≤ w.y ∧ w.y ≤ 127
def FW.up (w : FW) (i : Nat) : Nat := w.u.toNat % (i + 1)
structure FS where
  (k : SVT) (up : UP) (t : PW) (M : CM) (N : CS)
structure ChOk (n : Nat) (M : CM) (N : CS) : Prop where
  mn : (M.map (·.1)).Nodup
  nn : (N.map (·.1)).Nodup
  ml : M.length ≤ n
  nl : N.length ≤ n
  mv : ∀ c id, mkF M c id = 0 ∨ mkF M c id = 3
theorem ChOk.hx {n : Nat} {M : CM} {N : CS} (h : ChOk n M N) (o id : Int) : bitsI .and .i64 (bitsI .and .i64 (mkF M o id) 3) 2052 = 0 := by
  rcases h.mv o id with e | e <;> rw [e] <;> decide +kernel
structure FS.Ok (n : Nat) (s : FS) : Prop where
  kw : KW n s.k s.up s.t
  ch : ChOk n s.M s.N
end Go.Proofs.YtbknacpdcdkjiaaGreat

/- TopFocus: what is made of the windows. No condition. -/
namespace Go.Proofs.YtbknacpdcdkjiaaGreat
open Go Go.VM
attribute [local irreducible] PurV Pur Step RL W D ACalls Then InBlock Fini
set_option linter.unusedVariables false
set_option linter.unusedSimpArgs false
set_option maxHeartbeats 20000000
def DV.z : DV := ⟨AC.z, false, false, false, IN.z, false, []⟩
end Go.Proofs.YtbknacpdcdkjiaaGreat
