/- TopWays. No condition. -/
import Derived.Test.YtbknacpdcdkjiaaGreatF53
namespace Go.Proofs.YtbknacpdcdkjiaaGreat
open Go Go.VM
attribute [local irreducible] PurV Pur Step RL W D ACalls Then InBlock Fini
set_option linter.unusedVariables false
set_option linter.unusedSimpArgs false
set_option maxHeartbeats 20000000
structure WA where
  (x y : Int) (now was : Bool)
structure WA.Ok (a : WA) : Prop where
  x : -128 ≤ a.x ∧ a.x ≤ 127
  y : -128 ≤ a.y ∧ a.y ≤ 127
def WA.enc (a : WA) : AV := .agg [AV.val (.int .i8 (a.x)), AV.val (.int .i8 (a.y)), AV.val (.bool (a.now)), AV.val (.bool (a.was))]
theorem fill_get {m : BMp} {P : List Int} {i : Nat} {a : Int} (h : ∀ x, getm m x = decide (x ∈ P.take i)) (ha : P[i]? = some a) : ∀ x, getm (putF m a true) x = decide (x ∈ P.take (i + 1)) := fun x => by
  have : getm (putF m a true) x = if x = a then true else getm m x := by unfold getm; rw [lk_put]; split <;> rfl
  rw [this, List.take_add_one, ha, h]
  by_cases e : x = a
  · rw [if_pos e]; simp [e]
  · rw [if_neg e]; refine decide_eq_decide.2 ?_; simp [e]
set_option maxRecDepth 100000 in
theorem tways_c (l : List WN) (acts : List WA) (H : Heap) (hl : l.length ≤ 9223372036854775807) (hla : acts.length ≤ 9223372036854775807) (okl : ∀ w ∈ l, w.Ok) (oka : ∀ a ∈ acts, a.Ok) :
    ACalls Tryz.prog 4 [.ro 11 (l.map WN.enc), .ro 4 (acts.map WA.enc)] H (fun r h' => r = AV.val (.bool (true)) ∧ h' = H) := by
  by_cases hl6 : l.length ≤ 6
  rotate_left
  · refine ACalls.intro Tryz.func4 rfl Tryz.ntmps4 Tryz.results4 (Nat.le_of_ble_eq_true rfl) ?_
    (repeat' (first|refine svz ⟨fun b hq=>?_⟩|refine svA ⟨?_⟩|refine svu ⟨fun u=>?_⟩|(refine svG (fun hg=>?_) (fun hg=>?_)<;>try exact svx)|refine svh (fun hb=>?_) (fun hb=>?_)|refine svb (fun b=>?_)|fail))
    exact fin_r (h' := _) ⟨rfl, rfl⟩
  by_cases ha20 : acts.length ≤ 20
  rotate_left
  · refine ACalls.intro Tryz.func4 rfl Tryz.ntmps4 Tryz.results4 (Nat.le_of_ble_eq_true rfl) ?_
    (repeat' (first|refine svz ⟨fun b hq=>?_⟩|refine svA ⟨?_⟩|refine svu ⟨fun u=>?_⟩|(refine svG (fun hg=>?_) (fun hg=>?_)<;>try exact svx)|refine svh (fun hb=>?_) (fun hb=>?_)|refine svb (fun b=>?_)|fail))
    exact fin_r (h' := _) ⟨rfl, rfl⟩
  obtain ⟨AL, hAL, hAl, hAa⟩ : ∃ AL : List AV, acts.map WA.enc = AL ∧ AL.length = acts.length ∧ ∀ (i : Nat) a, acts[i]? = some a → AL[i]? = some (.agg [AV.val (.int .i8 (a.x)), AV.val (.int .i8 (a.y)), AV.val (.bool (a.now)), AV.val (.bool (a.was))]) := ⟨_, rfl, List.length_map _, fun i a h => by rw [List.getElem?_map, h]; rfl⟩
  rw [hAL]
  clear hAL
  have wm := fun h => wmade_c l h hl6 okl
  have ok := gsF_ok okl (Nat.le_refl l.length)
  have rt := gsF_root l l.length
  have v1 := ok.p.vin (wd := 12) (hg := 10) (by omega) (by omega) (by omega) rt.1
  have v2 := ok.q.vin (wd := 12) (hg := 10) (by omega) (by omega) (by omega) rt.2
  have tw := ok.p.tw
  have hul : (gsF l l.length).up.length ≤ 100 := by have := ok.p.ul; omega
  have hids : IdOk (gsF l l.length).up := ok.p.ids (by omega)
  obtain ⟨n0, hat0, hn0⟩ := v1.at' 3 3 (by decide)
  have hI0 := wst_inv ok.p (by omega) v1 hn0
  have ws := fun h => wstate_c (gsF l l.length).k (gsF l l.length).up (orF (gsF l l.length).k (gsF l l.length).up (gsF l l.length).p) (vwF (gsF l l.length).k (gsF l l.length).up (gsF l l.length).p) n0 h tw hul hids v1.vo v1.ol hat0 hn0
  clear rt ok okl hl
  generalize orF (gsF l l.length).k (gsF l l.length).up (gsF l l.length).p = O1 at *
  generalize vwF (gsF l l.length).k (gsF l l.length).up (gsF l l.length).p = V1 at *
  generalize orF (gsF l l.length).k (gsF l l.length).up (gsF l l.length).q = O2 at *
  generalize vwF (gsF l l.length).k (gsF l l.length).up (gsF l l.length).q = V2 at *
  generalize hk : (gsF l l.length).k = k at *
  generalize hup : (gsF l l.length).up = up at *
  clear hk hup
  generalize hs0 : wst k up O1 V1 (wtM (belF (ofS k) (up.length + 1) 1)) n0 = s0 at *
  have hun0 : s0.un = n0 := by rw [← hs0]; rfl
  clear hs0 hat0
  have pth := fun id h => path_all tw (by omega) id h
  have plen := fun id => pathA_len tw id
  have hbl := bel_len tw (up.length + 1)
  have bl := fun h => below_c k up (rkF up) (fun p c hc => tw.rank hc) (fun p => by have := tw.ofl p; omega) (up.length + 1) 1 h (by unfold hasT; simp) (by unfold rkF; omega) (by omega)
  generalize belF (ofS k) (up.length + 1) 1 = BL at *
  unfold encT at wm ws pth bl
  unfold encW at ws
  unfold RT.enc at ws
  refine ACalls.intro Tryz.func4 rfl Tryz.ntmps4 Tryz.results4 (Nat.le_of_ble_eq_true rfl) ?_
  (repeat' (first|refine svz ⟨fun b hq=>?_⟩|refine svA ⟨?_⟩|refine svu ⟨fun u=>?_⟩|(refine svG (fun hg=>?_) (fun hg=>?_)<;>try exact svx)|refine svh (fun hb=>?_) (fun hb=>?_)|refine svb (fun b=>?_)|fail))
  refine S.call ?_; refine (wm _).mono ?_; rintro r h' ⟨rfl, hh⟩; subst hh
  revert h'; intro H
  (repeat' (first|refine svz ⟨fun b hq=>?_⟩|refine svA ⟨?_⟩|refine svu ⟨fun u=>?_⟩|(refine svG (fun hg=>?_) (fun hg=>?_)<;>try exact svx)|refine svh (fun hb=>?_) (fun hb=>?_)|refine svb (fun b=>?_)|fail))
  rename_i b5
  revert b; intro b6
  refine S.Ar (j := 0) ?_
  (repeat' (first|refine svz ⟨fun b hq=>?_⟩|refine svA ⟨?_⟩|refine svu ⟨fun u=>?_⟩|(refine svG (fun hg=>?_) (fun hg=>?_)<;>try exact svx)|refine svh (fun hb=>?_) (fun hb=>?_)|refine svb (fun b=>?_)|fail))
  refine S.call ?_; refine (ws _).mono ?_; rintro r h' ⟨rfl, hh⟩; subst hh
  (repeat' (first|refine svz ⟨fun b hq=>?_⟩|refine svA ⟨?_⟩|refine svu ⟨fun u=>?_⟩|(refine svG (fun hg=>?_) (fun hg=>?_)<;>try exact svx)|refine svh (fun hb=>?_) (fun hb=>?_)|refine svb (fun b=>?_)|fail))
  revert b; intro b8
  refine S.mkm0 vB (fun bm => ?_)
  (repeat' (first|refine svz ⟨fun b hq=>?_⟩|refine svA ⟨?_⟩|refine svu ⟨fun u=>?_⟩|(refine svG (fun hg=>?_) (fun hg=>?_)<;>try exact svx)|refine svh (fun hb=>?_) (fun hb=>?_)|refine svb (fun b=>?_)|fail))
  refine S.call ?_; refine (pth s0.un _).mono ?_; rintro r h' ⟨rfl, hh⟩; subst hh
  (repeat' (first|refine svz ⟨fun b hq=>?_⟩|refine svA ⟨?_⟩|refine svu ⟨fun u=>?_⟩|(refine svG (fun hg=>?_) (fun hg=>?_)<;>try exact svx)|refine svh (fun hb=>?_) (fun hb=>?_)|refine svb (fun b=>?_)|fail))
  clear wm ws
  have hpl0 := plen s0.un
  obtain ⟨P0, hP0⟩ : ∃ P0, P0 = pathA up s0.un := ⟨_, rfl⟩
  rw [← hP0] at hpl0 ⊢
  refine W.loop (J := fun z : Nat × BMp => ⟨161, [(56, AV.val (.int .i64 ((z.1 : Nat)))), (55, AV.val (.int .i64 ((P0.length : Nat)))), (54, AV.ro 1 (ints .u32 (P0))), (1, .ro 4 AL), (9, .val (.map (some bm))), (8, .val (.pointer (some ⟨b8, 0, none⟩))), (6, .val (.pointer (some ⟨b6, 0, none⟩))), (5, .val (.pointer (some ⟨b5, 0, none⟩))), (4, AV.val (.bool (false)))], mpV bm .u32 vB z.2 :: .box b8 (mapV .u32 vIds (s0).k :: mapV .u32 (vI .u32) (s0).up :: AV.ro 1 (ints .u32 ((s0).o)) :: mapV .u32 vSW (s0).V :: mapK (vI .i64) (s0).M :: mapV .u32 (vI .i64) (s0).N :: AV.val (.int .u32 ((s0).fw)) :: AV.val (.int .i64 ((s0).fr)) :: AV.val (.int .u32 ((s0).ft)) :: AV.ro 9 [] :: AV.val (.int .i64 (((s0).p).a.cl)) :: AV.val (.int .u32 (((s0).p).a.w)) :: AV.val (.bool (((s0).p).a.ow)) :: AV.val (.int .i64 (((s0).p).a.mask)) :: AV.val (.bool (((s0).p).a.au)) :: AV.val (.bool (((s0).p).a.pa)) :: AV.val (.int .i64 (((s0).p).a.code)) :: AV.val (.int .u32 (((s0).p).a.time)) :: AV.val (.bool (((s0).p).g)) :: AV.val (.bool (((s0).p).f)) :: AV.val (.bool (((s0).p).s)) :: AV.val (.int .i64 (((s0).p).held.k)) :: AV.val (.int .i64 (((s0).p).held.c)) :: AV.val (.int .i64 (((s0).p).held.x)) :: AV.val (.int .i64 (((s0).p).held.y)) :: AV.val (.int .u32 (((s0).p).held.t)) :: AV.val (.int .i64 (((s0).p).held.n)) :: AV.val (.bool (((s0).p).hs)) :: AV.ro 6 (((s0).p).ws.map IN.enc) :: AV.val (.int .i64 (((s0).q).a.cl)) :: AV.val (.int .u32 (((s0).q).a.w)) :: AV.val (.bool (((s0).q).a.ow)) :: AV.val (.int .i64 (((s0).q).a.mask)) :: AV.val (.bool (((s0).q).a.au)) :: AV.val (.bool (((s0).q).a.pa)) :: AV.val (.int .i64 (((s0).q).a.code)) :: AV.val (.int .u32 (((s0).q).a.time)) :: AV.val (.bool (((s0).q).g)) :: AV.val (.bool (((s0).q).f)) :: AV.val (.bool (((s0).q).s)) :: AV.val (.int .i64 (((s0).q).held.k)) :: AV.val (.int .i64 (((s0).q).held.c)) :: AV.val (.int .i64 (((s0).q).held.x)) :: AV.val (.int .i64 (((s0).q).held.y)) :: AV.val (.int .u32 (((s0).q).held.t)) :: AV.val (.int .i64 (((s0).q).held.n)) :: AV.val (.bool (((s0).q).hs)) :: AV.ro 6 (((s0).q).ws.map IN.enc) :: AV.val (.int .i64 ((s0).x)) :: AV.val (.int .i64 ((s0).y)) :: AV.val (.int .i64 ((s0).bt)) :: AV.val (.int .i64 ((s0).md)) :: AV.val (.int .i64 ((s0).ct)) :: AV.val (.int .u32 ((s0).nw)) :: AV.val (.int .u32 ((s0).un)) :: []) 52 :: .box b6 [AV.ro 1 (ints .u32 (O1)), mapV .u32 vSW V1, AV.ro 1 (ints .u32 (O2)), mapV .u32 vSW V2] 72 :: .box b5 [mapV .u32 vIds k, mapV .u32 (vI .u32) up] 28 :: H⟩)
    (Φ := fun z => z.1 ≤ P0.length ∧ ∀ x, getm z.2 x = decide (x ∈ P0.take z.1)) (μ := fun z => P0.length - z.1) (0, []) lee ⟨Nat.zero_le _, fun x => by simp [getm, lkF]⟩ ?_
  rintro ⟨i, m⟩ ⟨hi, hm⟩
  dsimp only at hi hm ⊢
  rcases Nat.lt_or_ge i P0.length with hlt | hge
  · obtain ⟨a, ha⟩ : ∃ a, P0[i]? = some a := ⟨_, List.getElem?_eq_getElem hlt⟩
    have hm2 := fill_get hm ha
    clear hm pth plen bl
    (repeat' (first|refine svz ⟨fun b hq=>?_⟩|refine svA ⟨?_⟩|refine svu ⟨fun u=>?_⟩|(refine svG (fun hg=>?_) (fun hg=>?_)<;>try exact svx)|refine svh (fun hb=>?_) (fun hb=>?_)|refine svb (fun b=>?_)|fail))
    exact ⟨(i + 1, putF m a true), ⟨hlt, hm2⟩, lee, by dsimp only; omega⟩
  rw [List.take_of_length_le hge, hP0] at hm
  (repeat' (first|refine svz ⟨fun b hq=>?_⟩|refine svA ⟨?_⟩|refine svu ⟨fun u=>?_⟩|(refine svG (fun hg=>?_) (fun hg=>?_)<;>try exact svx)|refine svh (fun hb=>?_) (fun hb=>?_)|refine svb (fun b=>?_)|fail))
  clear hge hpl0 hP0 hi
  refine W.loop (J := fun z : Nat × RT × BMp => ⟨161, [(65, AV.val (.int .i64 ((z.1 : Nat)))), (64, AV.val (.int .i64 ((AL.length : Int)))), (63, .ro 4 AL), (9, .val (.map (some bm))), (8, .val (.pointer (some ⟨b8, 0, none⟩))), (6, .val (.pointer (some ⟨b6, 0, none⟩))), (5, .val (.pointer (some ⟨b5, 0, none⟩))), (4, AV.val (.bool (false)))], mpV bm .u32 vB z.2.2 :: .box b8 (mapV .u32 vIds (z.2.1).k :: mapV .u32 (vI .u32) (z.2.1).up :: AV.ro 1 (ints .u32 ((z.2.1).o)) :: mapV .u32 vSW (z.2.1).V :: mapK (vI .i64) (z.2.1).M :: mapV .u32 (vI .i64) (z.2.1).N :: AV.val (.int .u32 ((z.2.1).fw)) :: AV.val (.int .i64 ((z.2.1).fr)) :: AV.val (.int .u32 ((z.2.1).ft)) :: AV.ro 9 [] :: AV.val (.int .i64 (((z.2.1).p).a.cl)) :: AV.val (.int .u32 (((z.2.1).p).a.w)) :: AV.val (.bool (((z.2.1).p).a.ow)) :: AV.val (.int .i64 (((z.2.1).p).a.mask)) :: AV.val (.bool (((z.2.1).p).a.au)) :: AV.val (.bool (((z.2.1).p).a.pa)) :: AV.val (.int .i64 (((z.2.1).p).a.code)) :: AV.val (.int .u32 (((z.2.1).p).a.time)) :: AV.val (.bool (((z.2.1).p).g)) :: AV.val (.bool (((z.2.1).p).f)) :: AV.val (.bool (((z.2.1).p).s)) :: AV.val (.int .i64 (((z.2.1).p).held.k)) :: AV.val (.int .i64 (((z.2.1).p).held.c)) :: AV.val (.int .i64 (((z.2.1).p).held.x)) :: AV.val (.int .i64 (((z.2.1).p).held.y)) :: AV.val (.int .u32 (((z.2.1).p).held.t)) :: AV.val (.int .i64 (((z.2.1).p).held.n)) :: AV.val (.bool (((z.2.1).p).hs)) :: AV.ro 6 (((z.2.1).p).ws.map IN.enc) :: AV.val (.int .i64 (((z.2.1).q).a.cl)) :: AV.val (.int .u32 (((z.2.1).q).a.w)) :: AV.val (.bool (((z.2.1).q).a.ow)) :: AV.val (.int .i64 (((z.2.1).q).a.mask)) :: AV.val (.bool (((z.2.1).q).a.au)) :: AV.val (.bool (((z.2.1).q).a.pa)) :: AV.val (.int .i64 (((z.2.1).q).a.code)) :: AV.val (.int .u32 (((z.2.1).q).a.time)) :: AV.val (.bool (((z.2.1).q).g)) :: AV.val (.bool (((z.2.1).q).f)) :: AV.val (.bool (((z.2.1).q).s)) :: AV.val (.int .i64 (((z.2.1).q).held.k)) :: AV.val (.int .i64 (((z.2.1).q).held.c)) :: AV.val (.int .i64 (((z.2.1).q).held.x)) :: AV.val (.int .i64 (((z.2.1).q).held.y)) :: AV.val (.int .u32 (((z.2.1).q).held.t)) :: AV.val (.int .i64 (((z.2.1).q).held.n)) :: AV.val (.bool (((z.2.1).q).hs)) :: AV.ro 6 (((z.2.1).q).ws.map IN.enc) :: AV.val (.int .i64 ((z.2.1).x)) :: AV.val (.int .i64 ((z.2.1).y)) :: AV.val (.int .i64 ((z.2.1).bt)) :: AV.val (.int .i64 ((z.2.1).md)) :: AV.val (.int .i64 ((z.2.1).ct)) :: AV.val (.int .u32 ((z.2.1).nw)) :: AV.val (.int .u32 ((z.2.1).un)) :: []) 52 :: .box b6 [AV.ro 1 (ints .u32 (O1)), mapV .u32 vSW V1, AV.ro 1 (ints .u32 (O2)), mapV .u32 vSW V2] 72 :: .box b5 [mapV .u32 vIds k, mapV .u32 (vI .u32) up] 28 :: H⟩)
    (Φ := fun z => z.1 ≤ acts.length ∧ WI2 k up z.1 z.2.1 ∧ ∀ x, getm z.2.2 x = decide (x ∈ pathA up z.2.1.un)) (μ := fun z => acts.length - z.1) (0, s0, m) lee ⟨Nat.zero_le _, hI0, hm⟩ ?_
  clear hI0 hm hun0 m s0
  rintro ⟨i, s, m⟩ ⟨hi, hI, hm⟩
  dsimp only at hi hI hm ⊢
  rcases Nat.lt_or_ge i acts.length with hlt | hge
  rotate_left
  · (repeat' (first|refine svz ⟨fun b hq=>?_⟩|refine svA ⟨?_⟩|refine svu ⟨fun u=>?_⟩|(refine svG (fun hg=>?_) (fun hg=>?_)<;>try exact svx)|refine svh (fun hb=>?_) (fun hb=>?_)|refine svb (fun b=>?_)|fail))
    exact fin_r (h' := _) ⟨rfl, rfl⟩
  obtain ⟨a, haa⟩ : ∃ a, acts[i]? = some a := ⟨_, List.getElem?_eq_getElem hlt⟩
  have oa := oka a (List.mem_of_getElem? haa)
  obtain ⟨ax1, ax2⟩ := oa.x
  obtain ⟨ay1, ay2⟩ := oa.y
  have hat := hAa i a haa
  clear oa haa
  have hkk := hI.k
  have huu := hI.up
  have inv := hI.inv
  have hun : hasT up s.un = true := by rw [← huu]; exact inv.un
  have htl : ∀ s1 : RT, s1.k = s.k → s1.up = s.up → s1.M = s.M → s1.un = s.un → ∀ n, hasT up n = true → ToldOk ((crsF s1 n).map SD.enc) (crossF up s.un n) := fun s1 e1 e2 e3 e4 n hn => by
    have := told_ok (s := s1) (n := n) (by rw [e1, e2]; exact inv.ok.tw) (by rw [e2, e3]; exact inv.w32) (by rw [e2, e4, huu]; exact hun) (by rw [e2, huu]; exact hn)
    rw [e2, e4, huu] at this
    exact this
  (repeat' (first | (refine iS ?_; refine iMu ?_; refine S.mapU ?_) | refine svz ⟨fun b hq=>?_⟩|refine svT ⟨?_⟩|refine svu ⟨fun u=>?_⟩|(refine svG (fun hg=>?_) (fun hg=>?_)<;>try exact svx)|refine svh (fun hb=>?_) (fun hb=>?_)|refine svb (fun b=>?_) | fail))
  refine W.seq ?_; (repeat' (first | (refine iS ?_; refine iMu ?_; refine S.mapU ?_) | refine svz ⟨fun b hq=>?_⟩|refine svT ⟨?_⟩|refine svu ⟨fun u=>?_⟩|(refine svG (fun hg=>?_) (fun hg=>?_)<;>try exact svx)|refine svh (fun hb=>?_) (fun hb=>?_)|refine svb (fun b=>?_) | fail))
  refine W.seq ?_; (repeat' (first | (refine iS ?_; refine iMu ?_; refine S.mapU ?_) | refine svz ⟨fun b hq=>?_⟩|refine svT ⟨?_⟩|refine svu ⟨fun u=>?_⟩|(refine svG (fun hg=>?_) (fun hg=>?_)<;>try exact svx)|refine svh (fun hb=>?_) (fun hb=>?_)|refine svb (fun b=>?_) | fail))
  refine W.mid (J := fun z : RT × List AV => ⟨161, [(14, .ro 7 z.2), (65, AV.val (.int .i64 ((i : Nat)))), (64, AV.val (.int .i64 ((AL.length : Int)))), (63, .ro 4 AL), (9, .val (.map (some bm))), (8, .val (.pointer (some ⟨b8, 0, none⟩))), (6, .val (.pointer (some ⟨b6, 0, none⟩))), (5, .val (.pointer (some ⟨b5, 0, none⟩))), (4, AV.val (.bool (false)))], mpV bm .u32 vB m :: .box b8 (mapV .u32 vIds (z.1).k :: mapV .u32 (vI .u32) (z.1).up :: AV.ro 1 (ints .u32 ((z.1).o)) :: mapV .u32 vSW (z.1).V :: mapK (vI .i64) (z.1).M :: mapV .u32 (vI .i64) (z.1).N :: AV.val (.int .u32 ((z.1).fw)) :: AV.val (.int .i64 ((z.1).fr)) :: AV.val (.int .u32 ((z.1).ft)) :: AV.ro 9 [] :: AV.val (.int .i64 (((z.1).p).a.cl)) :: AV.val (.int .u32 (((z.1).p).a.w)) :: AV.val (.bool (((z.1).p).a.ow)) :: AV.val (.int .i64 (((z.1).p).a.mask)) :: AV.val (.bool (((z.1).p).a.au)) :: AV.val (.bool (((z.1).p).a.pa)) :: AV.val (.int .i64 (((z.1).p).a.code)) :: AV.val (.int .u32 (((z.1).p).a.time)) :: AV.val (.bool (((z.1).p).g)) :: AV.val (.bool (((z.1).p).f)) :: AV.val (.bool (((z.1).p).s)) :: AV.val (.int .i64 (((z.1).p).held.k)) :: AV.val (.int .i64 (((z.1).p).held.c)) :: AV.val (.int .i64 (((z.1).p).held.x)) :: AV.val (.int .i64 (((z.1).p).held.y)) :: AV.val (.int .u32 (((z.1).p).held.t)) :: AV.val (.int .i64 (((z.1).p).held.n)) :: AV.val (.bool (((z.1).p).hs)) :: AV.ro 6 (((z.1).p).ws.map IN.enc) :: AV.val (.int .i64 (((z.1).q).a.cl)) :: AV.val (.int .u32 (((z.1).q).a.w)) :: AV.val (.bool (((z.1).q).a.ow)) :: AV.val (.int .i64 (((z.1).q).a.mask)) :: AV.val (.bool (((z.1).q).a.au)) :: AV.val (.bool (((z.1).q).a.pa)) :: AV.val (.int .i64 (((z.1).q).a.code)) :: AV.val (.int .u32 (((z.1).q).a.time)) :: AV.val (.bool (((z.1).q).g)) :: AV.val (.bool (((z.1).q).f)) :: AV.val (.bool (((z.1).q).s)) :: AV.val (.int .i64 (((z.1).q).held.k)) :: AV.val (.int .i64 (((z.1).q).held.c)) :: AV.val (.int .i64 (((z.1).q).held.x)) :: AV.val (.int .i64 (((z.1).q).held.y)) :: AV.val (.int .u32 (((z.1).q).held.t)) :: AV.val (.int .i64 (((z.1).q).held.n)) :: AV.val (.bool (((z.1).q).hs)) :: AV.ro 6 (((z.1).q).ws.map IN.enc) :: AV.val (.int .i64 ((z.1).x)) :: AV.val (.int .i64 ((z.1).y)) :: AV.val (.int .i64 ((z.1).bt)) :: AV.val (.int .i64 ((z.1).md)) :: AV.val (.int .i64 ((z.1).ct)) :: AV.val (.int .u32 ((z.1).nw)) :: AV.val (.int .u32 ((z.1).un)) :: []) 52 :: .box b6 [AV.ro 1 (ints .u32 (O1)), mapV .u32 vSW V1, AV.ro 1 (ints .u32 (O2)), mapV .u32 vSW V2] 72 :: .box b5 [mapV .u32 vIds k, mapV .u32 (vI .u32) up] 28 :: H⟩)
    (Φ := fun z => WI2 k up (i + 1) z.1 ∧ hasT up z.1.un = true ∧ atF z.1.o z.1.V z.1.x z.1.y = some z.1.un ∧ ToldOk z.2 (crossF up s.un z.1.un)) ?_ ?_
  · clear bl pth hbl plen hm
    have chg : ∀ O V, VIn 12 10 up O V → ∃ n TT, hasT up n = true ∧ WI2 k up (i + 1) ((s.vw O V).ud n) ∧ atF O V s.x s.y = some n ∧ ToldOk TT (crossF up s.un n) ∧ ∀ h, ACalls Tryz.prog 16 [(s.vw O V).enc] h (fun r h' => r = .tup [((s.vw O V).ud n).enc, .ro 7 TT] ∧ h' = h) := fun O V vv => by
      have iv := inv.view (show VIn 12 10 s.up O V by rw [huu]; exact vv)
      obtain ⟨n, hat2, hn⟩ := vv.at' s.x s.y inv.xy
      have hn2 : hasT (s.vw O V).up n = true := by rw [show (s.vw O V).up = s.up from rfl, huu]; exact hn
      exact ⟨n, _, hn, ⟨iv.stay hn2, hkk, huu⟩, hat2, htl (s.vw O V) rfl rfl rfl rfl n hn, fun h => rmoved_c (s.vw O V) n h iv.ok iv.ids iv.fw iv.pg iv.qg iv.pw iv.qw (by have := iv.nw; omega) iv.un hn2 hat2⟩
    cases hnow : a.now with
    | true =>
      obtain ⟨n, TT, hn, fin, hat2, hT, mv⟩ := chg O2 V2 v2
      clear chg htl hI inv
      unfold RT.enc at mv
      unfold RT.vw at mv
      rw [hnow] at hat
      (repeat' (first|refine svz ⟨fun b hq=>?_⟩|refine svA ⟨?_⟩|refine svu ⟨fun u=>?_⟩|(refine svG (fun hg=>?_) (fun hg=>?_)<;>try exact svx)|refine svh (fun hb=>?_) (fun hb=>?_)|refine svb (fun b=>?_)|fail))
      refine S.Ar (j := 0) ?_
      (repeat' (first|refine svz ⟨fun b hq=>?_⟩|refine svA ⟨?_⟩|refine svu ⟨fun u=>?_⟩|(refine svG (fun hg=>?_) (fun hg=>?_)<;>try exact svx)|refine svh (fun hb=>?_) (fun hb=>?_)|refine svb (fun b=>?_)|fail))
      refine S.store_any ?_ (hl := Nat.le_of_ble_eq_true rfl)
      (repeat' (first|refine svz ⟨fun b hq=>?_⟩|refine svA ⟨?_⟩|refine svu ⟨fun u=>?_⟩|(refine svG (fun hg=>?_) (fun hg=>?_)<;>try exact svx)|refine svh (fun hb=>?_) (fun hb=>?_)|refine svb (fun b=>?_)|fail))
      refine S.Ar (j := 1) ?_
      (repeat' (first|refine svz ⟨fun b hq=>?_⟩|refine svA ⟨?_⟩|refine svu ⟨fun u=>?_⟩|(refine svG (fun hg=>?_) (fun hg=>?_)<;>try exact svx)|refine svh (fun hb=>?_) (fun hb=>?_)|refine svb (fun b=>?_)|fail))
      refine S.store_any ?_ (hl := Nat.le_of_ble_eq_true rfl)
      (repeat' (first|refine svz ⟨fun b hq=>?_⟩|refine svA ⟨?_⟩|refine svu ⟨fun u=>?_⟩|(refine svG (fun hg=>?_) (fun hg=>?_)<;>try exact svx)|refine svh (fun hb=>?_) (fun hb=>?_)|refine svb (fun b=>?_)|fail))
      refine S.call ?_; refine (mv _).mono ?_; rintro r h' ⟨rfl, hh⟩; subst hh
      (repeat' (first|refine svz ⟨fun b hq=>?_⟩|refine svA ⟨?_⟩|refine svu ⟨fun u=>?_⟩|(refine svG (fun hg=>?_) (fun hg=>?_)<;>try exact svx)|refine svh (fun hb=>?_) (fun hb=>?_)|refine svb (fun b=>?_)|fail))
      exact ⟨((s.vw O2 V2).ud n, TT), ⟨fin, hn, hat2, hT⟩, lee⟩
    | false =>
      cases hwas : a.was with
      | true =>
        obtain ⟨n, TT, hn, fin, hat2, hT, mv⟩ := chg O1 V1 v1
        clear chg htl hI inv
        unfold RT.enc at mv
        unfold RT.vw at mv
        rw [hnow, hwas] at hat
        (repeat' (first|refine svz ⟨fun b hq=>?_⟩|refine svA ⟨?_⟩|refine svu ⟨fun u=>?_⟩|(refine svG (fun hg=>?_) (fun hg=>?_)<;>try exact svx)|refine svh (fun hb=>?_) (fun hb=>?_)|refine svb (fun b=>?_)|fail))
        refine S.Ar (j := 0) ?_
        (repeat' (first|refine svz ⟨fun b hq=>?_⟩|refine svA ⟨?_⟩|refine svu ⟨fun u=>?_⟩|(refine svG (fun hg=>?_) (fun hg=>?_)<;>try exact svx)|refine svh (fun hb=>?_) (fun hb=>?_)|refine svb (fun b=>?_)|fail))
        refine S.store_any ?_ (hl := Nat.le_of_ble_eq_true rfl)
        (repeat' (first|refine svz ⟨fun b hq=>?_⟩|refine svA ⟨?_⟩|refine svu ⟨fun u=>?_⟩|(refine svG (fun hg=>?_) (fun hg=>?_)<;>try exact svx)|refine svh (fun hb=>?_) (fun hb=>?_)|refine svb (fun b=>?_)|fail))
        refine S.call ?_; refine (mv _).mono ?_; rintro r h' ⟨rfl, hh⟩; subst hh
        (repeat' (first|refine svz ⟨fun b hq=>?_⟩|refine svA ⟨?_⟩|refine svu ⟨fun u=>?_⟩|(refine svG (fun hg=>?_) (fun hg=>?_)<;>try exact svx)|refine svh (fun hb=>?_) (fun hb=>?_)|refine svb (fun b=>?_)|fail))
        exact ⟨((s.vw O1 V1).ud n, TT), ⟨fin, hn, hat2, hT⟩, lee⟩
      | false =>
        have mc := fun h => mot_c inv ⟨5, 0, a.x, a.y, (i : Int), 0⟩ h rfl rfl (by dsimp only; omega) (by omega) (by unfold I64; dsimp only; omega) (by unfold I64; dsimp only; omega)
        have fin := fun x y n hxy hn => inv.moved (t := (i : Int)) (x := x) (y := y) (n := n) (by omega) hxy hn
        clear chg hI inv
        rw [hnow, hwas] at hat
        unfold RT.enc at mc
        rw [IN.enc_eq] at mc
        dsimp only at mc
        (repeat' (first|refine svz ⟨fun b hq=>?_⟩|refine svA ⟨?_⟩|refine svu ⟨fun u=>?_⟩|(refine svG (fun hg=>?_) (fun hg=>?_)<;>try exact svx)|refine svh (fun hb=>?_) (fun hb=>?_)|refine svb (fun b=>?_)|fail))
        refine S.call ?_
        refine (mc _).mono ?_
        rintro r h' ⟨⟨x, y, n, hxy, hat2, hn, rfl⟩, hh⟩
        subst hh
        have fin := fin x y n hxy hn
        have hn2 : hasT up n = true := by rw [← huu]; exact hn
        have hT := htl ((s.cn (s.ct + 1) (max s.nw (i : Int))).xy x y) rfl rfl rfl rfl n hn2
        have f2 : WI2 k up (i + 1) (motS s (i : Int) x y n) := ⟨fin, hkk, huu⟩
        have f3 : atF (motS s (i : Int) x y n).o (motS s (i : Int) x y n).V (motS s (i : Int) x y n).x (motS s (i : Int) x y n).y = some (motS s (i : Int) x y n).un := hat2
        have f4 : (motS s (i : Int) x y n).un = n := rfl
        clear mc htl fin hat2 hxy hn
        generalize (crsF ((s.cn (s.ct + 1) (max s.nw (i : Int))).xy x y) n).map SD.enc = TT at *
        generalize motS s (i : Int) x y n = sN at *
        rw [← f4] at hT hn2
        (repeat' (first|refine svz ⟨fun b hq=>?_⟩|refine svA ⟨?_⟩|refine svu ⟨fun u=>?_⟩|(refine svG (fun hg=>?_) (fun hg=>?_)<;>try exact svx)|refine svh (fun hb=>?_) (fun hb=>?_)|refine svb (fun b=>?_)|fail))
        exact ⟨(sN, TT), ⟨f2, hn2, f3, hT⟩, lee⟩
  · rintro ⟨s1, TT⟩ ⟨fin, hn, hat2, hT⟩
    dsimp only at fin hn hat2 hT
    have va := fun h => vat_c s1.o s1.V s1.x s1.y h fin.inv.ok.vo (by have := fin.inv.ok.ol; omega)
    rw [hat2] at va
    have cl := cross_law tw hun hn hm
    have hcl := crossF_len tw (by omega) s.un s1.un
    have hci := crossF_has tw hun hn
    have wt := fun h => wtold_c bm m (crossF up s.un s1.un) TT h hT.1 (by omega) hT.2 (fun st hst => by have := hids _ (hci st hst); omega) cl.1
    have pth1 := fun h => pth s1.un h
    have plen1 := plen s1.un
    unfold atV encW at va
    clear hci hcl hT htl inv hkk huu hI v1 v2 hat2 hids tw hm pth plen
    (repeat' (first|refine svz ⟨fun b hq=>?_⟩|refine svA ⟨?_⟩|refine svu ⟨fun u=>?_⟩|(refine svG (fun hg=>?_) (fun hg=>?_)<;>try exact svx)|refine svh (fun hb=>?_) (fun hb=>?_)|refine svb (fun b=>?_)|fail))
    refine S.call ?_; refine (va _).mono ?_; rintro r h' ⟨rfl, hh⟩; subst hh
    (repeat' (first|refine svz ⟨fun b hq=>?_⟩|refine svA ⟨?_⟩|refine svu ⟨fun u=>?_⟩|(refine svG (fun hg=>?_) (fun hg=>?_)<;>try exact svx)|refine svh (fun hb=>?_) (fun hb=>?_)|refine svb (fun b=>?_)|fail))
    refine S.call ?_
    refine (wt _).mono ?_
    rintro r h' ⟨m2, rfl, hh, hg⟩
    subst hh
    have hm2 : ∀ x, getm m2 x = decide (x ∈ pathA up s1.un) := fun x => by rw [hg]; exact cl.2 x
    clear hg cl wt va
    (repeat' (first|refine svz ⟨fun b hq=>?_⟩|refine svA ⟨?_⟩|refine svu ⟨fun u=>?_⟩|(refine svG (fun hg=>?_) (fun hg=>?_)<;>try exact svx)|refine svh (fun hb=>?_) (fun hb=>?_)|refine svb (fun b=>?_)|fail))
    refine S.mkm0 vB (fun bp => ?_)
    (repeat' (first|refine svz ⟨fun b hq=>?_⟩|refine svA ⟨?_⟩|refine svu ⟨fun u=>?_⟩|(refine svG (fun hg=>?_) (fun hg=>?_)<;>try exact svx)|refine svh (fun hb=>?_) (fun hb=>?_)|refine svb (fun b=>?_)|fail))
    refine S.call ?_; refine (pth1 _).mono ?_; rintro r h' ⟨rfl, hh⟩; subst hh
    (repeat' (first|refine svz ⟨fun b hq=>?_⟩|refine svA ⟨?_⟩|refine svu ⟨fun u=>?_⟩|(refine svG (fun hg=>?_) (fun hg=>?_)<;>try exact svx)|refine svh (fun hb=>?_) (fun hb=>?_)|refine svb (fun b=>?_)|fail))
    have hm3 := hm2
    obtain ⟨P1, hP1⟩ : ∃ P1, P1 = pathA up s1.un := ⟨_, rfl⟩
    rw [← hP1] at hm2 plen1 ⊢
    clear hP1
    refine W.loop (J := fun z : Nat × BMp => ⟨161, [(138, AV.val (.int .i64 ((z.1 : Nat)))), (137, AV.val (.int .i64 ((P1.length : Nat)))), (136, AV.ro 1 (ints .u32 (P1))), (20, .val (.map (some bp))), (65, AV.val (.int .i64 ((i : Nat)))), (64, AV.val (.int .i64 ((AL.length : Int)))), (63, .ro 4 AL), (9, .val (.map (some bm))), (8, .val (.pointer (some ⟨b8, 0, none⟩))), (6, .val (.pointer (some ⟨b6, 0, none⟩))), (5, .val (.pointer (some ⟨b5, 0, none⟩))), (4, AV.val (.bool (false)))], mpV bp .u32 vB z.2 :: mpV bm .u32 vB m2 :: .box b8 (mapV .u32 vIds (s1).k :: mapV .u32 (vI .u32) (s1).up :: AV.ro 1 (ints .u32 ((s1).o)) :: mapV .u32 vSW (s1).V :: mapK (vI .i64) (s1).M :: mapV .u32 (vI .i64) (s1).N :: AV.val (.int .u32 ((s1).fw)) :: AV.val (.int .i64 ((s1).fr)) :: AV.val (.int .u32 ((s1).ft)) :: AV.ro 9 [] :: AV.val (.int .i64 (((s1).p).a.cl)) :: AV.val (.int .u32 (((s1).p).a.w)) :: AV.val (.bool (((s1).p).a.ow)) :: AV.val (.int .i64 (((s1).p).a.mask)) :: AV.val (.bool (((s1).p).a.au)) :: AV.val (.bool (((s1).p).a.pa)) :: AV.val (.int .i64 (((s1).p).a.code)) :: AV.val (.int .u32 (((s1).p).a.time)) :: AV.val (.bool (((s1).p).g)) :: AV.val (.bool (((s1).p).f)) :: AV.val (.bool (((s1).p).s)) :: AV.val (.int .i64 (((s1).p).held.k)) :: AV.val (.int .i64 (((s1).p).held.c)) :: AV.val (.int .i64 (((s1).p).held.x)) :: AV.val (.int .i64 (((s1).p).held.y)) :: AV.val (.int .u32 (((s1).p).held.t)) :: AV.val (.int .i64 (((s1).p).held.n)) :: AV.val (.bool (((s1).p).hs)) :: AV.ro 6 (((s1).p).ws.map IN.enc) :: AV.val (.int .i64 (((s1).q).a.cl)) :: AV.val (.int .u32 (((s1).q).a.w)) :: AV.val (.bool (((s1).q).a.ow)) :: AV.val (.int .i64 (((s1).q).a.mask)) :: AV.val (.bool (((s1).q).a.au)) :: AV.val (.bool (((s1).q).a.pa)) :: AV.val (.int .i64 (((s1).q).a.code)) :: AV.val (.int .u32 (((s1).q).a.time)) :: AV.val (.bool (((s1).q).g)) :: AV.val (.bool (((s1).q).f)) :: AV.val (.bool (((s1).q).s)) :: AV.val (.int .i64 (((s1).q).held.k)) :: AV.val (.int .i64 (((s1).q).held.c)) :: AV.val (.int .i64 (((s1).q).held.x)) :: AV.val (.int .i64 (((s1).q).held.y)) :: AV.val (.int .u32 (((s1).q).held.t)) :: AV.val (.int .i64 (((s1).q).held.n)) :: AV.val (.bool (((s1).q).hs)) :: AV.ro 6 (((s1).q).ws.map IN.enc) :: AV.val (.int .i64 ((s1).x)) :: AV.val (.int .i64 ((s1).y)) :: AV.val (.int .i64 ((s1).bt)) :: AV.val (.int .i64 ((s1).md)) :: AV.val (.int .i64 ((s1).ct)) :: AV.val (.int .u32 ((s1).nw)) :: AV.val (.int .u32 ((s1).un)) :: []) 52 :: .box b6 [AV.ro 1 (ints .u32 (O1)), mapV .u32 vSW V1, AV.ro 1 (ints .u32 (O2)), mapV .u32 vSW V2] 72 :: .box b5 [mapV .u32 vIds k, mapV .u32 (vI .u32) up] 28 :: H⟩)
      (Φ := fun z => z.1 ≤ P1.length ∧ ∀ x, getm z.2 x = decide (x ∈ P1.take z.1)) (μ := fun z => P1.length - z.1) (0, []) lee ⟨Nat.zero_le _, fun x => by simp [getm, lkF]⟩ ?_
    rintro ⟨j, mp⟩ ⟨hj, hmp⟩
    dsimp only at hj hmp ⊢
    rcases Nat.lt_or_ge j P1.length with hjt | hjg
    · obtain ⟨x0, hx0⟩ : ∃ a, P1[j]? = some a := ⟨_, List.getElem?_eq_getElem hjt⟩
      have hmp2 := fill_get hmp hx0
      clear hmp bl hm2
      (repeat' (first|refine svz ⟨fun b hq=>?_⟩|refine svA ⟨?_⟩|refine svu ⟨fun u=>?_⟩|(refine svG (fun hg=>?_) (fun hg=>?_)<;>try exact svx)|refine svh (fun hb=>?_) (fun hb=>?_)|refine svb (fun b=>?_)|fail))
      exact ⟨(j + 1, putF mp x0 true), ⟨hjt, hmp2⟩, lee, by dsimp only; omega⟩
    rw [List.take_of_length_le hjg] at hmp
    have he : ∀ x, (lkF m2 x).getD false = (lkF mp x).getD false := fun x => by
      have h1 := hm2 x
      have h2 := hmp x
      unfold getm at h1 h2
      rw [h1, h2]
    clear hmp
    (repeat' (first|refine svz ⟨fun b hq=>?_⟩|refine svA ⟨?_⟩|refine svu ⟨fun u=>?_⟩|(refine svG (fun hg=>?_) (fun hg=>?_)<;>try exact svx)|refine svh (fun hb=>?_) (fun hb=>?_)|refine svb (fun b=>?_)|fail))
    refine S.call ?_; refine (bl _).mono ?_; rintro r h' ⟨rfl, hh⟩; subst hh
    (repeat' (first|refine svz ⟨fun b hq=>?_⟩|refine svA ⟨?_⟩|refine svu ⟨fun u=>?_⟩|(refine svG (fun hg=>?_) (fun hg=>?_)<;>try exact svx)|refine svh (fun hb=>?_) (fun hb=>?_)|refine svb (fun b=>?_)|fail))
    clear bl
    refine W.loop (J := fun j : Nat => ⟨161, [(148, AV.val (.int .i64 ((j : Nat)))), (147, AV.val (.int .i64 ((BL.length : Nat)))), (146, AV.ro 1 (ints .u32 (BL))), (20, .val (.map (some bp))), (65, AV.val (.int .i64 ((i : Nat)))), (64, AV.val (.int .i64 ((AL.length : Int)))), (63, .ro 4 AL), (9, .val (.map (some bm))), (8, .val (.pointer (some ⟨b8, 0, none⟩))), (6, .val (.pointer (some ⟨b6, 0, none⟩))), (5, .val (.pointer (some ⟨b5, 0, none⟩))), (4, AV.val (.bool (false)))], mpV bp .u32 vB mp :: mpV bm .u32 vB m2 :: .box b8 (mapV .u32 vIds (s1).k :: mapV .u32 (vI .u32) (s1).up :: AV.ro 1 (ints .u32 ((s1).o)) :: mapV .u32 vSW (s1).V :: mapK (vI .i64) (s1).M :: mapV .u32 (vI .i64) (s1).N :: AV.val (.int .u32 ((s1).fw)) :: AV.val (.int .i64 ((s1).fr)) :: AV.val (.int .u32 ((s1).ft)) :: AV.ro 9 [] :: AV.val (.int .i64 (((s1).p).a.cl)) :: AV.val (.int .u32 (((s1).p).a.w)) :: AV.val (.bool (((s1).p).a.ow)) :: AV.val (.int .i64 (((s1).p).a.mask)) :: AV.val (.bool (((s1).p).a.au)) :: AV.val (.bool (((s1).p).a.pa)) :: AV.val (.int .i64 (((s1).p).a.code)) :: AV.val (.int .u32 (((s1).p).a.time)) :: AV.val (.bool (((s1).p).g)) :: AV.val (.bool (((s1).p).f)) :: AV.val (.bool (((s1).p).s)) :: AV.val (.int .i64 (((s1).p).held.k)) :: AV.val (.int .i64 (((s1).p).held.c)) :: AV.val (.int .i64 (((s1).p).held.x)) :: AV.val (.int .i64 (((s1).p).held.y)) :: AV.val (.int .u32 (((s1).p).held.t)) :: AV.val (.int .i64 (((s1).p).held.n)) :: AV.val (.bool (((s1).p).hs)) :: AV.ro 6 (((s1).p).ws.map IN.enc) :: AV.val (.int .i64 (((s1).q).a.cl)) :: AV.val (.int .u32 (((s1).q).a.w)) :: AV.val (.bool (((s1).q).a.ow)) :: AV.val (.int .i64 (((s1).q).a.mask)) :: AV.val (.bool (((s1).q).a.au)) :: AV.val (.bool (((s1).q).a.pa)) :: AV.val (.int .i64 (((s1).q).a.code)) :: AV.val (.int .u32 (((s1).q).a.time)) :: AV.val (.bool (((s1).q).g)) :: AV.val (.bool (((s1).q).f)) :: AV.val (.bool (((s1).q).s)) :: AV.val (.int .i64 (((s1).q).held.k)) :: AV.val (.int .i64 (((s1).q).held.c)) :: AV.val (.int .i64 (((s1).q).held.x)) :: AV.val (.int .i64 (((s1).q).held.y)) :: AV.val (.int .u32 (((s1).q).held.t)) :: AV.val (.int .i64 (((s1).q).held.n)) :: AV.val (.bool (((s1).q).hs)) :: AV.ro 6 (((s1).q).ws.map IN.enc) :: AV.val (.int .i64 ((s1).x)) :: AV.val (.int .i64 ((s1).y)) :: AV.val (.int .i64 ((s1).bt)) :: AV.val (.int .i64 ((s1).md)) :: AV.val (.int .i64 ((s1).ct)) :: AV.val (.int .u32 ((s1).nw)) :: AV.val (.int .u32 ((s1).un)) :: []) 52 :: .box b6 [AV.ro 1 (ints .u32 (O1)), mapV .u32 vSW V1, AV.ro 1 (ints .u32 (O2)), mapV .u32 vSW V2] 72 :: .box b5 [mapV .u32 vIds k, mapV .u32 (vI .u32) up] 28 :: H⟩)
      (Φ := fun j => j ≤ BL.length) (μ := fun j => BL.length - j) 0 lee (Nat.zero_le _) ?_
    clear hj hjg
    rintro j hj
    rcases Nat.lt_or_ge j BL.length with hjt | hjg
    · obtain ⟨x0, hx0⟩ : ∃ a, BL[j]? = some a := ⟨_, List.getElem?_eq_getElem hjt⟩
      have he0 := he x0
      clear he hm2
      (repeat' (first|refine svz ⟨fun b hq=>?_⟩|refine svA ⟨?_⟩|refine svu ⟨fun u=>?_⟩|(refine svG (fun hg=>?_) (fun hg=>?_)<;>try exact svx)|refine svh (fun hb=>?_) (fun hb=>?_)|refine svb (fun b=>?_)|fail))
      all_goals first | (exfalso; revert hb; rw [he0]; simp; done) | exact ⟨j + 1, hjt, lee, by omega⟩
    · (repeat' (first|refine svz ⟨fun b hq=>?_⟩|refine svA ⟨?_⟩|refine svu ⟨fun u=>?_⟩|(refine svG (fun hg=>?_) (fun hg=>?_)<;>try exact svx)|refine svh (fun hb=>?_) (fun hb=>?_)|refine svb (fun b=>?_)|fail))
      exact ⟨(i + 1, s1, m2), ⟨hlt, fin, hm3⟩, lee, by dsimp only; omega⟩
end Go.Proofs.YtbknacpdcdkjiaaGreat
