import Derived.Test.YtbknacpdcdkjiaaGreatF20
import Derived.Test.YtbknacpdcdkjiaaGreatF33
/- A key that goes down, where nothing waits. No condition. -/
namespace Go.Proofs.YtbknacpdcdkjiaaGreat
open Go Go.VM
attribute [local irreducible] PurV Pur Step RL W D ACalls Then InBlock Fini
set_option linter.unusedVariables false
set_option linter.unusedSimpArgs false
set_option maxHeartbeats 20000000
def tellF (s : RT) (i : IN) (ch st sx sy : Int) : List SD := (namesF s false 1).2.map fun c => ⟨c, i.k, [(namesF s false 1).1, ch, i.c, st, sx, sy, s.x, s.y, i.t]⟩
theorem pressK_t (s : RT) (i : IN) (Wo : List Int) (L : List SD) (ok : s.Ok) (hk : i.k = 1) (how : s.q.a.ow = false)
    (hw : 0 ≤ (namesF s false 1).1 ∧ (namesF s false 1).1 ≤ 4294967295) (hl : L.length + (namesF s false 1).2.length ≤ 1000000000) (ht : 0 ≤ i.t ∧ i.t ≤ 4294967295) (hic : -1000000 ≤ i.c ∧ i.c ≤ 1000000) :
    TakC 77 s i Wo L (fun s' l => ∃ bt md ch sx sy, s' = s.bm bt md ∧ l = tellF s i ch (stF s) sx sy) := fun b0 v H =>
  (pressK_c b0 v s i Wo L H ok hk how hw hl ht hic).mono (by
    rintro r h' ⟨v', bt, md, ch, sx, sy, rfl, rfl⟩
    exact ⟨v', _, _, ⟨bt, md, ch, sx, sy, rfl, rfl⟩, rfl, rfl⟩)
theorem TakC.mono {f : FuncId} {s : RT} {i : IN} {Wo : List Int} {L : List SD} {R R' : RT → List SD → Prop} (h : TakC f s i Wo L R) (hr : ∀ s' l, R s' l → R' s' l) : TakC f s i Wo L R' := fun b0 v H =>
  (h b0 v H).mono (by rintro r h' ⟨v', s', l, q, e1, e2⟩; exact ⟨v', s', l, hr s' l q, e1, e2⟩)
theorem DV.next_nil {d : DV} (h : d.ws = []) : d.next = none := by unfold DV.next; rw [h]
theorem pick_nil {s : RT} (hp : s.p.ws = []) (hq : s.q.ws = []) : pickF s = none := by unfold pickF; rw [DV.next_nil hp, DV.next_nil hq]
theorem DV.wait_nil {d : DV} (h : d.ws = []) : d.wait [] = d := by
  show DV.mk d.a d.g d.f d.s d.held d.hs [] = d
  rw [← h]
theorem pick_fed (s : RT) (i : IN) (hpw : s.p.ws = []) (hqw : s.q.ws = []) (hqf : s.q.f = false) (hqs : s.q.s = false) : pickF (fedF s false i) = some (false, s.q.wait [], i.num (s.ct + 1)) := by
  have e1 : (fedF s false i).p.next = none := DV.next_nil hpw
  have e2 : (fedF s false i).q.next = some (s.q.wait [], i.num (s.ct + 1)) := by
    show (s.q.wait (s.q.ws ++ [i.num (s.ct + 1)])).next = _
    rw [hqw]
    unfold DV.next
    show (if s.q.f = true then none else some (if (s.q.s && _) = true then _ else (s.q.wait _).wait [], _)) = _
    rw [hqf, hqs]; rfl
  unfold pickF
  rw [e1, e2]
theorem key_c (s : RT) (i : IN) (h : Heap) (ok : s.Ok) (hk : i.k = 1) (hc : 1 ≤ i.c ∧ i.c < 248) (ht : 0 ≤ i.t ∧ i.t < 2147483648) (hnw : 0 ≤ s.nw ∧ s.nw < 2147483648) (hct : 0 ≤ s.ct ∧ s.ct < 1000000)
    (hpw : s.p.ws = []) (hqw : s.q.ws = []) (hqf : s.q.f = false) (hqs : s.q.s = false) (how : s.q.a.ow = false)
    (hw : 0 ≤ (namesF s false 1).1 ∧ (namesF s false 1).1 ≤ 4294967295) (hl : (namesF s false 1).2.length ≤ 1000000) :
    ACalls Tryz.prog 11 [s.enc, i.enc] h (fun r h' => (∃ bt md ch st sx sy, r = .tup [((s.cn (s.ct + 1) (max s.nw i.t)).bm bt md).enc, .ro 7 ((tellF s i ch st sx sy).map SD.enc), AV.val (.int .i64 (0))]) ∧ h' = h) := by
  refine (step1_c (fun s' L => (s' = fedF s false i ∧ L = []) ∨ ∃ bt md ch st sx sy, s' = (s.cn (s.ct + 1) (max s.nw i.t)).bm bt md ∧ L = tellF s i ch st sx sy) ?_ ?_ s i h hk hc ht hnw hct (by rw [hqw]; decide) (.inl ⟨rfl, rfl⟩)).mono ?_
  · rintro s' L (⟨rfl, rfl⟩ | ⟨bt, md, ch, st, sx, sy, rfl, rfl⟩)
    · refine ⟨?_, ?_⟩
      · show s.p.ws.length ≤ _; rw [hpw]; decide
      · show (s.q.ws ++ [_]).length ≤ _; rw [hqw]; simp
    · refine ⟨?_, ?_⟩
      · show s.p.ws.length ≤ _; rw [hpw]; decide
      · show s.q.ws.length ≤ _; rw [hqw]; decide
  · rintro s' L p n j (⟨rfl, rfl⟩ | ⟨bt, md, ch, st, sx, sy, rfl, rfl⟩) hp
    · rw [pick_fed s i hpw hqw hqf hqs] at hp
      injection hp with hp
      injection hp with e1 hp
      injection hp with e2 e3
      subst e1 e2 e3
      have eh : hldF ((fedF s false i).dv false) (s.q.wait []) (i.num (s.ct + 1)) = s.q := by
        unfold hldF
        rw [show ((fedF s false i).dv false).s = false from hqs, if_neg (by simp)]
        exact DV.wait_nil hqw
      rw [eh]
      have es : (fedF s false i).setd false s.q = s.cn (s.ct + 1) (max s.nw i.t) := rfl
      rw [es]
      refine (take_c (by show 1 ≤ i.k ∧ i.k ≤ 5; omega) (R := fun s' l => ∃ bt md ch sx sy, s' = (s.cn (s.ct + 1) (max s.nw i.t)).bm bt md ∧ l = tellF s i ch (stF (s.cn (s.ct + 1) (max s.nw i.t))) sx sy) ?_).mono ?_
      · rw [show (kdF (i.num (s.ct + 1)).k).fn = 77 by show (kdF i.k).fn = _; rw [hk]; rfl]
        exact pressK_t (s.cn (s.ct + 1) (max s.nw i.t)) (i.num (s.ct + 1)) [] [] ⟨ok.tw, ok.ul, ok.vo, ok.ol⟩ hk how hw (by rw [List.length_nil]; exact Nat.le_trans (by rw [Nat.zero_add]; exact hl) (by decide)) ⟨ht.1, by show i.t ≤ _; omega⟩ ⟨by show _ ≤ i.c; omega, by show i.c ≤ _; omega⟩
      · rintro s' l ⟨bt, md, ch, sx, sy, rfl, rfl⟩
        refine ⟨.inr ⟨bt, md, ch, _, sx, sy, rfl, rfl⟩, ?_⟩
        show s.p.ws.length + s.q.ws.length < s.p.ws.length + (s.q.ws ++ [_]).length
        simp
    · exfalso
      rw [pick_nil (s := (s.cn (s.ct + 1) (max s.nw i.t)).bm bt md) hpw hqw] at hp
      cases hp
  · rintro r h' ⟨⟨s', L, (⟨rfl, rfl⟩ | ⟨bt, md, ch, st, sx, sy, rfl, rfl⟩), hn, rfl⟩, rfl⟩
    · exfalso
      rw [pick_fed s i hpw hqw hqf hqs] at hn
      cases hn
    · exact ⟨⟨bt, md, ch, st, sx, sy, rfl⟩, rfl⟩
end Go.Proofs.YtbknacpdcdkjiaaGreat

/- TopFocus: the plain facts. No condition. -/
namespace Go.Proofs.YtbknacpdcdkjiaaGreat
open Go Go.VM
attribute [local irreducible] PurV Pur Step RL W D ACalls Then InBlock Fini
set_option linter.unusedVariables false
set_option linter.unusedSimpArgs false
set_option maxHeartbeats 20000000
theorem find_spec (M : CM) (N : CS) (mask : Int) : ∀ L : List Int, findF M N mask L = (0, []) ∨ ∃ id ∈ L, findF M N mask L = (id, whoF M id (msk mask)) ∧ whoF M id (msk mask) ≠ []
  | [] => .inl rfl
  | id :: r => by
    unfold findF
    by_cases h : whoF M id (msk mask) ≠ []
    · rw [if_pos h]; exact .inr ⟨id, List.mem_cons_self .., rfl, h⟩
    · rw [if_neg h]
      by_cases h2 : bitsI .and .i64 ((lkF N id).getD 0) (msk mask) ≠ 0
      · rw [if_pos h2]; exact .inl rfl
      · rw [if_neg h2]
        rcases find_spec M N mask r with q | ⟨x, hx, q⟩
        · exact .inl q
        · exact .inr ⟨x, List.mem_cons_of_mem _ hx, q⟩
theorem who_asc (M : CM) (id mask : Int) : (whoF M id mask).Pairwise (· < ·) := by
  unfold whoF
  refine List.Pairwise.filter _ ?_
  rw [List.pairwise_map]
  exact List.Pairwise.imp (fun h => by omega) List.pairwise_lt_range
theorem who_pos {M : CM} {id mask c : Int} (h : c ∈ whoF M id mask) : 1 ≤ c ∧ c ≤ 8 := by
  unfold whoF at h
  have := (List.mem_filter.1 h).1
  obtain ⟨i, hi, rfl⟩ := List.mem_map.1 this
  have := List.mem_range.1 hi
  omega
theorem Pth.mem_has {up : UP} {id : Int} {R : List Int} (h : Pth up id R) : ∀ x ∈ R, hasT up x = true := by
  induction h with
  | root => intro x hx; cases hx
  | up h1 h r ih =>
    intro x hx
    rcases List.mem_cons.1 hx with rfl | hx
    · exact r.has
    · exact ih x hx
theorem pathA_has {k : SVT} {up : UP} (w : TW k up) {id x : Int} (h : x ∈ pathA up id) : hasT up x = true := by
  unfold pathA at h
  split at h
  · next e =>
    rcases List.mem_cons.1 h with rfl | h
    · exact e
    · exact (w.pthR e).1.mem_has x h
  · cases h
theorem wayF_has {k : SVT} {up : UP} (w : TW k up) {fw un x : Int} (h : x ∈ wayF up fw un) : hasT up x = true := by
  unfold wayF at h
  split at h
  · cases h
  · split at h
    · cases h
    · next e =>
      split at h
      · exact pathA_has w (List.mem_of_mem_take h)
      · rw [List.mem_singleton.1 h]; simpa using e
end Go.Proofs.YtbknacpdcdkjiaaGreat

/- Plain: the law of TopFocus. No condition. -/
namespace Go.Proofs.YtbknacpdcdkjiaaGreat
open Go Go.VM
set_option linter.unusedVariables false
set_option linter.unusedSimpArgs false
set_option linter.unusedSectionVars false
set_option maxHeartbeats 4000000
structure FInv (g : Bool) (i : Nat) (s : RT) : Prop where
  ok : s.Ok
  pw : s.p.ws = []
  qw : s.q.ws = []
  qf : s.q.f = false
  qs : s.q.s = false
  qo : s.q.a.ow = false
  qg : s.q.g = g
  ga : g = true → s.q.a.mask = 1 ∧ s.q.a.w = 1 ∧ s.q.a.cl = 5
  ids : ∀ id, hasT s.up id = true → 1 ≤ id ∧ id ≤ 4294967295
  ct : s.ct = i
  nw : 0 ≤ s.nw ∧ s.nw ≤ i
theorem FInv.next {g : Bool} {i : Nat} {s : RT} (h : FInv g i s) (bt md : Int) : FInv g (i + 1) ((s.cn (s.ct + 1) (max s.nw (i : Int))).bm bt md) := by
  have h1 := h.nw; have h2 := h.ct
  refine ⟨⟨h.ok.tw, h.ok.ul, h.ok.vo, h.ok.ol⟩, h.pw, h.qw, h.qf, h.qs, h.qo, h.qg, h.ga, h.ids, ?_, ?_⟩
  · show s.ct + 1 = _; omega
  · show 0 ≤ max s.nw (i : Int) ∧ max s.nw (i : Int) ≤ _; omega
theorem RT.Ok.way {s : RT} (ok : s.Ok) (hi : ∀ id, hasT s.up id = true → 1 ≤ id ∧ id ≤ 4294967295) {x : Int} (h : x ∈ wayF s.up s.fw s.un) : 1 ≤ x ∧ x ≤ 4294967295 := hi x (wayF_has ok.tw h)
theorem msk_1 : msk 1 = 1 := by decide +kernel
theorem FInv.names {g : Bool} {i : Nat} {s : RT} (h : FInv g i s) : (g = true ∧ namesF s false 1 = (1, [5])) ∨ (g = false ∧ (namesF s false 1 = (0, []) ∨ ∃ w, w ∈ wayF s.up s.fw s.un ∧ namesF s false 1 = (w, whoF s.M w 1) ∧ whoF s.M w 1 ≠ [] ∧ (1 ≤ w ∧ w ≤ 4294967295) ∧ s.fw ≠ 0)) := by
  cases g with
  | true =>
    obtain ⟨h1, h2, h3⟩ := h.ga rfl
    refine .inl ⟨rfl, ?_⟩
    unfold namesF
    rw [if_neg (by rw [show s.dv false = s.q from rfl, h.qg]; decide), show s.dv false = s.q from rfl, h1, h2, h3, if_pos (by decide +kernel)]
  | false =>
    refine .inr ⟨rfl, ?_⟩
    have e : namesF s false 1 = findF s.M s.N 1 (wayF s.up s.fw s.un) := by
      unfold namesF
      rw [if_pos (show (s.dv false).g = false from h.qg)]; rfl
    rw [e]
    rcases find_spec s.M s.N 1 (wayF s.up s.fw s.un) with q | ⟨w, h1, h2, h3⟩
    · exact .inl q
    · rw [msk_1] at h2 h3
      refine .inr ⟨w, h1, h2, h3, h.ok.way h.ids h1, fun e => ?_⟩
      unfold wayF at h1
      rw [if_pos e] at h1; cases h1
theorem FInv.who {i : Nat} {s : RT} (h : FInv false i s) : ∃ w cl, namesF s false 1 = (w, cl) ∧ cl.Pairwise (· < ·) ∧ (∀ c ∈ cl, 1 ≤ c) ∧ cl.length ≤ 8 ∧ (0 ≤ w ∧ w ≤ 4294967295) ∧ ((cl = [] ∧ w = 0) ∨ (cl ≠ [] ∧ w ∈ wayF s.up s.fw s.un ∧ cl = whoF s.M w 1 ∧ 1 ≤ w ∧ s.fw ≠ 0)) := by
  rcases h.names with ⟨q, _⟩ | ⟨_, e | ⟨w, h1, e, h2, h3, h4⟩⟩
  · cases q
  · exact ⟨0, [], e, .nil, by simp, by simp, by omega, .inl ⟨rfl, rfl⟩⟩
  · exact ⟨w, whoF s.M w 1, e, who_asc _ _ _, fun c hc => (who_pos hc).1, whoF_len _ _ _, by omega, .inr ⟨h2, h1, rfl, h3.1, h4⟩⟩
theorem FInv.bd {g : Bool} {i : Nat} {s : RT} (h : FInv g i s) : (0 ≤ (namesF s false 1).1 ∧ (namesF s false 1).1 ≤ 4294967295) ∧ (namesF s false 1).2.length ≤ 8 := by
  rcases h.names with ⟨_, e⟩ | ⟨_, e | ⟨w, _, e, _, hb, _⟩⟩ <;> rw [e]
  · exact ⟨by decide, by decide⟩
  · exact ⟨by decide, by decide⟩
  · exact ⟨⟨by dsimp only; omega, hb.2⟩, whoF_len _ _ _⟩
theorem stZ_inv {l : List FW} (hl : ∀ w ∈ l, w.Ok) (h8 : l.length ≤ 8) (x y : Int) : FInv false 0 (stZ (fsF l l.length) x y) := by
  have k := (fsF_ok hl (Nat.le_refl _)).kw
  have Q := k.pw (by omega)
  have hb := bel_len Q.w ((fsF l l.length).up.length + 1)
  refine ⟨⟨k.tw, ?_, Q.vok, ?_⟩, rfl, rfl, rfl, rfl, rfl, rfl, (fun h => absurd h (by decide)), fun id h => ?_, rfl, by show (0 : Int) ≤ 0 ∧ (0 : Int) ≤ _; omega⟩
  · show (fsF l l.length).up.length ≤ 1000
    rw [k.ul]; omega
  · show (orF _ _ _).length ≤ 1000
    have h2 := List.length_filter_le (fun id => (lkF (vwF (fsF l l.length).k (fsF l l.length).up (fsF l l.length).t) id).isSome) (belF (ofS (fsF l l.length).k) ((fsF l l.length).up.length + 1) 1)
    have h1 := k.ul
    unfold orF
    omega
  · obtain ⟨j, h1, rfl⟩ := k.has id h
    exact idT_bd (by omega)
def RT.fo (s : RT) (w : Int) : RT := { s with fw := w }
theorem FInv.focus {s : RT} (h : FInv false 0 s) (w : Int) : FInv false 0 (s.fo w) := ⟨⟨h.ok.tw, h.ok.ul, h.ok.vo, h.ok.ol⟩, h.pw, h.qw, h.qf, h.qs, h.qo, h.qg, h.ga, h.ids, h.ct, h.nw⟩
theorem FInv.grab {s : RT} (h : FInv false 0 s) : FInv true 0 (s.setd false (s.q.begin ⟨5, 1, false, 1, false, false, 0, 0⟩ false)) := ⟨⟨h.ok.tw, h.ok.ul, h.ok.vo, h.ok.ol⟩, h.pw, h.qw, rfl, rfl, rfl, rfl, fun _ => ⟨rfl, rfl, rfl⟩, h.ids, h.ct, h.nw⟩
end Go.Proofs.YtbknacpdcdkjiaaGreat

/- TopFocus: a key goes to the window that has the focus. No condition. -/
namespace Go.Proofs.YtbknacpdcdkjiaaGreat
open Go Go.VM
attribute [local irreducible] PurV Pur Step RL W D ACalls Then InBlock Fini
set_option linter.unusedVariables false
set_option linter.unusedSimpArgs false
set_option maxHeartbeats 20000000
def fw0 : FW := ⟨0, true, 2, false, 0, 0⟩
theorem fw0_ok : ∀ w ∈ [fw0], w.Ok := fun w h => by
  rw [List.mem_singleton.1 h]
  exact ⟨by decide, by decide, by decide, by decide⟩
theorem fw0_way (un : Int) : wayF [(1048577, 1)] 1048577 un = [1048577] := by
  have h1 : hasT [(1048577, 1)] 1048577 = true := by decide +kernel
  unfold wayF
  rw [if_neg (by decide), if_neg (by rw [h1]; decide)]
  by_cases e1 : un = 1048577
  · subst e1
    rw [show pathA [(1048577, 1)] 1048577 = [1048577, 1] by decide +kernel]
    rfl
  · by_cases e2 : un = 1
    · subst e2
      rw [show pathA [(1048577, 1)] 1 = [1] by decide +kernel]
      rfl
    · have : pathA [(1048577, 1)] un = [] := by
        unfold pathA hasT lkF
        rw [if_neg]
        simp [e2, Ne.symm e1]
      rw [this]
      rfl
theorem fw0_names (x y : Int) : namesF ((stZ (fsF [fw0] 1) x y).fo 1048577) false 1 = (1048577, [2]) := by
  have e : namesF ((stZ (fsF [fw0] 1) x y).fo 1048577) false 1 = findF (fsF [fw0] 1).M (fsF [fw0] 1).N 1 (wayF (fsF [fw0] 1).up 1048577 (stZ (fsF [fw0] 1) x y).un) := by
    unfold namesF
    rw [if_pos (show (((stZ (fsF [fw0] 1) x y).fo 1048577).dv false).g = false from rfl)]; rfl
  rw [e, show (fsF [fw0] 1).up = [(1048577, 1)] by decide +kernel, fw0_way]
  decide +kernel
set_option maxRecDepth 100000 in
theorem fawake_c (H : Heap) : ACalls Tryz.prog 6 [] H (fun r h' => r = AV.val (.bool (true)) ∧ h' = H) := by
  have mk := fun h => fmade_c [fw0] 11 11 h (by decide) fw0_ok (by decide) (by decide)
  have hI := stZ_inv fw0_ok (by decide) (11 % 12) (11 % 12)
  rw [show [fw0].length = 1 from rfl] at mk hI
  have hn := fw0_names (11 % 12) (11 % 12)
  have hJ := hI.focus 1048577
  have kc := fun h => key_c ((stZ (fsF [fw0] 1) (11 % 12) (11 % 12)).fo 1048577) ⟨1, 7, 0, 0, 1, 0⟩ h hJ.ok rfl (by decide) (by decide) (by have := hJ.nw; omega) (by have := hJ.ct; omega) hJ.pw hJ.qw hJ.qf hJ.qs hJ.qo hJ.bd.1 (by have := hJ.bd.2; omega)
  have eT : ∀ ch st sx sy, (tellF ((stZ (fsF [fw0] 1) (11 % 12) (11 % 12)).fo 1048577) ⟨1, 7, 0, 0, 1, 0⟩ ch st sx sy).map SD.enc = [.agg [AV.val (.int .i64 (2)), AV.val (.int .i64 (2)), AV.val (.int .i64 (1)), AV.val (.int .i64 (0)), .ro 1 (ints .i64 [1048577, ch, 7, st, sx, sy, 11 % 12, 11 % 12, 1]), .val (.string ⟨#[]⟩), .val (.slice none 0 0)]] := fun ch st sx sy => by
    unfold tellF
    rw [hn]; rfl
  simp only [eT] at kc
  rw [show [fw0].map FW.enc = [.agg [AV.val (.int .u8 (0)), AV.val (.bool (true)), AV.val (.int .u8 (2)), AV.val (.bool (false)), AV.val (.int .i8 (0)), AV.val (.int .i8 (0))]] from rfl] at mk
  have hfr : (stZ (fsF [fw0] 1) (11 % 12) (11 % 12)).fr = 0 := rfl
  have hft : (stZ (fsF [fw0] 1) (11 % 12) (11 % 12)).ft = 0 := rfl
  clear hI hJ hn eT
  generalize stZ (fsF [fw0] 1) (11 % 12) (11 % 12) = s at *
  unfold RT.fo at kc
  refine ACalls.intro Tryz.func6 rfl Tryz.ntmps6 Tryz.results6 (Nat.le_of_ble_eq_true rfl) ?_
  (repeat' (first | (refine iR2 ?_; refine r2b ?_; refine R2.one ?_) | (refine iS ?_; refine iN ?_; refine S.build1r ?_) | (refine iS ?_; refine iMu ?_; refine S.mapU ?_) | refine svz ⟨fun b hq=>?_⟩|refine svT ⟨?_⟩|refine svu ⟨fun u=>?_⟩|(refine svG (fun hg=>?_) (fun hg=>?_)<;>try exact svx)|refine svh (fun hb=>?_) (fun hb=>?_)|refine svb (fun b=>?_) | refine sva ?_ | refine sv3 ?_ | fail))
  refine S.call ?_
  refine (mk _).mono ?_
  rintro r h' ⟨⟨_, rfl⟩ | ⟨h8, _⟩, hh⟩
  rotate_left
  · exact absurd h8 (by decide)
  subst hh
  unfold RT.enc at *
  rw [IN.enc_eq] at kc
  dsimp only at kc
  rw [hfr, hft] at kc
  (repeat' (first|refine svz ⟨fun b hq=>?_⟩|refine svA ⟨?_⟩|refine svu ⟨fun u=>?_⟩|(refine svG (fun hg=>?_) (fun hg=>?_)<;>try exact svx)|refine svh (fun hb=>?_) (fun hb=>?_)|refine svb (fun b=>?_)|fail))
  refine S.store_any ?_ (hl := Nat.le_of_ble_eq_true rfl)
  (repeat' (first|refine svz ⟨fun b hq=>?_⟩|refine svA ⟨?_⟩|refine svu ⟨fun u=>?_⟩|(refine svG (fun hg=>?_) (fun hg=>?_)<;>try exact svx)|refine svh (fun hb=>?_) (fun hb=>?_)|refine svb (fun b=>?_)|fail))
  refine S.call ?_
  refine (kc _).mono ?_
  rintro r h' ⟨⟨bt, md, ch, st, sx, sy, rfl⟩, hh⟩
  subst hh
  (repeat' (first|refine svz ⟨fun b hq=>?_⟩|refine svA ⟨?_⟩|refine svu ⟨fun u=>?_⟩|(refine svG (fun hg=>?_) (fun hg=>?_)<;>try exact svx)|refine svh (fun hb=>?_) (fun hb=>?_)|refine svb (fun b=>?_)|fail))
  all_goals first | exact fin_r (h' := _) ⟨rfl, rfl⟩ | exact absurd (by simp) hg
end Go.Proofs.YtbknacpdcdkjiaaGreat
