import Derived.Test.YtfbegifmhgkpjaaGreatZ20
import Derived.Test.YtfbegifmhgkpjaaGreatZ18
import Derived.Test.YtfbegifmhgkpjaaGreatU4
/- TopShows: what Make gives; Awake. No condition. -/
namespace Go.Proofs.YtfbegifmhgkpjaaGreat
open Go Go.VM
attribute [local irreducible] PurV Pur Step RL W D ACalls Then InBlock Fini
set_option linter.unusedVariables false
set_option linter.unusedSimpArgs false
set_option maxHeartbeats 20000000
section
variable {l : List WI} {i : Nat} {k : SVT} {up : UP} {t : PW} {c : CN} {L : List RW} (m : MK l i k up t c L)
include m
theorem MK.pw (hi : i ≤ 60) : PWOk k up t := by
  refine ⟨m.tw, fun id h => ?_, m.tok, ?_, by have := m.ul; omega⟩
  · obtain ⟨j, h1, rfl⟩ := m.has id h
    exact m.tb j h1
  · obtain ⟨a, r, _, _, _, _, h, _⟩ := m.root
    exact ⟨_, _, h⟩
theorem MK.ci (hi : i ≤ 60) : CI up c := by
  refine ⟨m.cn, by have := m.cl; omega, fun id it h => ?_, fun id h => ?_⟩
  · obtain ⟨j, h1, h2, h3, h4, h5, h6, _⟩ := m.cit _ (lkF_mem h)
    dsimp only at h2 h3 h4 h5 h6
    refine ⟨by rw [h2]; exact m.has' j h1, h3, by omega, h5, ?_⟩
    rw [h6, h2]
    refine decide_eq_decide.2 ⟨fun e => by rw [e]; rfl, fun e => idT_inj (m := 0) e⟩
  · obtain ⟨j, h1, rfl⟩ := m.has id h
    exact m.chas j h1
theorem MK.sz : CSz t c := fun id it b h hb => by
  obtain ⟨j, h1, h2, h3, h4, h5, h6, b', h7, h8, h9⟩ := m.cit _ (lkF_mem h)
  dsimp only at h2 h8 h9
  rw [← h2, hb] at h7
  obtain rfl := Option.some.inj h7
  exact ⟨h8, h9⟩
end
def wi0 : WI := ⟨0, 0, 0, 3, 1, false, false, [], 5⟩
theorem wi0_ok : ∀ a ∈ [wi0], a.Ok := fun a h => by
  rw [List.mem_singleton.1 h]
  exact ⟨by decide, by decide, by decide, by decide, by decide, by decide⟩
theorem wi0_px : (⟨4, 2, inkF 4 2 5⟩ : GR).at' 0 0 = 5 := by decide +kernel
set_option maxRecDepth 100000 in
theorem awake_c (H : Heap) : ACalls Tryz.prog 4 [] H (fun r h' => r = .val (.bool (true)) ∧ h' = H) := by
  have mk := fun h => make_c [wi0] h (by decide) wi0_ok
  rw [show [wi0].map WI.enc = [.agg [.val (.int .u8 (0)), .val (.int .i8 (0)), .val (.int .i8 (0)), .val (.int .u8 (3)), .val (.int .u8 (1)), .val (.bool (false)), .val (.bool (false)), .ro 4 [], .val (.int .u8 (5))]] from rfl] at mk
  refine ACalls.intro Tryz.func4 rfl Tryz.ntmps4 Tryz.results4 (Nat.le_of_ble_eq_true rfl) ?_
  (repeat' ((fail_if_success (refine iS ?_; refine iN ?_)); (first|refine svz ⟨fun b hq=>?_⟩|refine svA ⟨?_⟩|refine svu ⟨fun u=>?_⟩|(refine svG (fun hg=>?_) (fun hg=>?_)<;>try exact svx)|refine svh (fun hb=>?_) (fun hb=>?_)|refine svb (fun b=>?_)|fail)))
  refine Step.le (s' := ⟨31, [(6, .agg [.val (.int .u8 (0)), .val (.int .i8 (0)), .val (.int .i8 (0)), .val (.int .u8 (3)), .val (.int .u8 (1)), .val (.bool (false)), .val (.bool (false)), .ro 4 [], .val (.int .u8 (5))]), (0, .val (.bool (false)))], H⟩) lee ?_
  (repeat' (first | (refine iR2 ?_; refine r2b ?_; refine R2.one ?_) | (refine iS ?_; refine iN ?_; refine S.build1r ?_) | (refine iS ?_; refine iMu ?_; refine S.mapU ?_) | refine svz ⟨fun b hq=>?_⟩|refine svT ⟨?_⟩|refine svu ⟨fun u=>?_⟩|(refine svG (fun hg=>?_) (fun hg=>?_)<;>try exact svx)|refine svh (fun hb=>?_) (fun hb=>?_)|refine svb (fun b=>?_) | refine sva ?_ | refine sv3 ?_ | fail))
  refine S.call ?_
  refine (mk _).mono ?_
  rintro r h' ⟨v, k, up, t, c, L, q, rfl, hh, hq1, hq2⟩
  subst hh
  cases q with
  | false =>
    exfalso
    rcases hq2 rfl with e | ⟨a, ha, hs⟩
    · exact e (by decide)
    · rw [List.mem_singleton.1 ha] at hs
      revert hs; decide
  | true =>
    obtain ⟨_, m⟩ := hq1 rfl
    have Q := m.pw (by decide)
    have C := m.ci (by decide)
    have Z := m.sz
    obtain ⟨a, r0, ha, _, _, _, hr, hc1⟩ := m.root
    obtain rfl : wi0 = a := Option.some.inj ha
    have ov := Q.vok
    have hul := Q.ul
    have hbl := bel_len Q.w (up.length + 1)
    have vo := fun h => vof_c k up t Q h (by omega)
    have hol : (orF k up t).length ≤ 100 := by have := List.length_filter_le (fun id => (lkF (vwF k up t) id).isSome) (belF (ofS k) (up.length + 1) 1); unfold orF; omega
    have sh := fun h' => show_c (orF k up t) (vwF k up t) c 4 2 h' (by omega) (by omega) ov (by omega) (fun id hid => (or_mem hid).1) (fun id hid => by
      obtain ⟨it, h1, h2, _⟩ := C.itG (bel_has Q.w _ _ _ Q.has1 (or_mem hid).2)
      exact ⟨it, h1, h2⟩)
    have ssw : (shwF (vwF k up t) c (orF k up t) 4 2).Ok := fold_ok _ _ (gr_new_ok (by omega) (by omega) (by omega)) (fun id hid => by
      obtain ⟨it, _, h2, h3⟩ := C.itG (bel_has Q.w _ _ _ Q.has1 (or_mem hid).2)
      rw [h3]; exact h2)
    have ga := fun h' => gat_c (shwF (vwF k up t) c (orF k up t) 4 2) 0 0 h' ssw
    have hT : lookF k up t 0 0 = 1 := by
      obtain ⟨j, h1, h2⟩ := m.has _ (bel_has Q.w _ _ _ Q.has1 (top_bel (bx := t) (ox := oX up t) (oy := oY up t) (x := 0) (y := 0) Q.w (up.length + 1) 1 (by unfold rkF; omega)))
      have : j = 0 := by simp at h1; exact h1
      subst this
      exact h2
    have heq := shw_at (w := 4) (h := 2) Q C Z hr (x := 0) (y := 0) (by omega) (by omega)
    rw [show ((0 : Nat) : Int) = 0 from rfl, hT, Q.o_root.1, Q.o_root.2, show itG c 1 = ⟨4, 2, inkF 4 2 5⟩ by unfold itG; rw [hc1]; rfl, show (0 : Int) - 0 = 0 from rfl, wi0_px] at heq
    rw [heq] at ga
    clear heq hT ssw hr hc1 Z hq1 hq2 mk m Q C ov hol hbl hul
    generalize shwF (vwF k up t) c (orF k up t) 4 2 = SG at *
    rw [show encV k up t = encW (orF k up t) (vwF k up t) from rfl] at vo
    unfold encT encP encC encW encG at *
    (repeat' (first|refine svz ⟨fun b hq=>?_⟩|refine svA ⟨?_⟩|refine svu ⟨fun u=>?_⟩|(refine svG (fun hg=>?_) (fun hg=>?_)<;>try exact svx)|refine svh (fun hb=>?_) (fun hb=>?_)|refine svb (fun b=>?_)|fail))
    refine R2.C (vo _) ?_
    (repeat' (first|refine svz ⟨fun b hq=>?_⟩|refine svA ⟨?_⟩|refine svu ⟨fun u=>?_⟩|(refine svG (fun hg=>?_) (fun hg=>?_)<;>try exact svx)|refine svh (fun hb=>?_) (fun hb=>?_)|refine svb (fun b=>?_)|fail))
    refine R2.C (sh _) ?_
    (repeat' (first|refine svz ⟨fun b hq=>?_⟩|refine svA ⟨?_⟩|refine svu ⟨fun u=>?_⟩|(refine svG (fun hg=>?_) (fun hg=>?_)<;>try exact svx)|refine svh (fun hb=>?_) (fun hb=>?_)|refine svb (fun b=>?_)|fail))
    refine S.call ?_; refine (ga _).mono ?_; rintro r h' ⟨rfl, hh⟩; subst hh
    (repeat' (first|refine svz ⟨fun b hq=>?_⟩|refine svA ⟨?_⟩|refine svu ⟨fun u=>?_⟩|(refine svG (fun hg=>?_) (fun hg=>?_)<;>try exact svx)|refine svh (fun hb=>?_) (fun hb=>?_)|refine svb (fun b=>?_)|fail))
    exact fin_r (h' := H) ⟨rfl, rfl⟩
end Go.Proofs.YtfbegifmhgkpjaaGreat

/- Plain: what holds between two changes of TopShows. No condition. -/
namespace Go.Proofs.YtfbegifmhgkpjaaGreat
open Go Go.VM
set_option linter.unusedVariables false
set_option linter.unusedSimpArgs false
set_option maxHeartbeats 4000000
theorem putF_has {α : Type} {t : List (Int × α)} {i : Int} {b0 : α} (a : α) (h : lkF t i = some b0) : (putF t i a).length = t.length := by
  unfold putF
  rw [h, Option.isSome_some, if_pos rfl, List.length_map]
structure GM (n w h : Nat) (up : UP) (k : SVT) (t : PW) (c : CN) (mv : List (Int × SHF)) : Prop where
  Q : PWOk k up t
  C : CI up c
  root : lkF t 1 = some (rootB w h)
  hz : ∀ it, lkF c 1 = some it → (w : Int) = it.g.w ∧ (h : Int) = it.g.h
  hids : ∀ j, j < n → hasT up (idT j) = true
  tl : t.length ≤ 60
  tne : t ≠ []
  M : MvOk mv
structure GI (n w h : Nat) (up : UP) (k : SVT) (t : PW) (c : CN) : Prop where
  m : GM n w h up k t c []
  Z : CSz t c
  G : CGr (vwF k up t) c
theorem SHF.ok0 : (⟨0, 0, false⟩ : SHF).Ok := ⟨by decide, by decide⟩
theorem MvOk.nil : MvOk [] := ⟨fun id => SHF.ok0, rfl⟩
theorem MvOk.one {id : Int} {s : SHF} (h : id ≠ 1) (k : s.Ok) : MvOk [(id, s)] := by
  refine ⟨fun i => ?_, ?_⟩
  · unfold mvF lkF
    rw [List.find?_cons]
    by_cases e : id = i
    · rw [decide_eq_true e]; exact k
    · rw [decide_eq_false e]; exact SHF.ok0
  · unfold lkF
    rw [List.find?_cons, decide_eq_false h]; rfl
section
variable {n w h : Nat} {up : UP} {k : SVT} {t : PW} {c : CN} {mv : List (Int × SHF)}
theorem GM.hb (g : GM n w h up k t c mv) : ∀ id, hasT up id = true → ∃ b, lkF t id = some b ∧ b.Ok := fun id hid => by
  obtain ⟨b, hb⟩ := g.Q.bt id hid
  exact ⟨b, hb, g.Q.ok _ _ hb⟩
theorem GM.hz' (g : GM n w h up k t c mv) : ∀ it b, lkF c 1 = some it → lkF t 1 = some b → b.w = it.g.w ∧ b.h = it.g.h := fun it b h1 h2 => by
  rw [g.root] at h2
  obtain rfl := Option.some.inj h2
  exact g.hz it h1
theorem GM.iok (g : GM n w h up k t c mv) : ∀ p ∈ c, IOk t mv p.1 p.2 := g.C.iok g.M g.hb g.hz'
theorem GM.step (g : GM n w h up k t c mv) {V : List (Int × SW)} (ov : VOk V) : GI n w h up k t (chC V (vwF k up t) t mv c) := by
  have hz := sz_change (V := V) (V2 := vwF k up t) (mv := mv) g.C g.hb g.hz'
  refine ⟨⟨g.Q, g.C.change g.hb, g.root, fun it hit => ?_, g.hids, g.tl, g.tne, .nil⟩, hz, gr_change g.C g.hb ov g.Q.vok g.M⟩
  exact hz 1 it _ hit g.root
theorem GI.draw (g : GI n w h up k t c) {id : Int} {it : IT} (D : List RC) {p : Int} (hp : 0 ≤ p ∧ p ≤ 255) (hit : lkF c id = some it) : GM n w h up k t (putF c id (drI it D p)) [] := by
  obtain ⟨⟨Q, C, root, hz, hids, tl, tne, _⟩, _, _⟩ := g
  obtain ⟨h1, h2, h3, h4, h5⟩ := C.ci id it hit
  refine ⟨Q, ⟨putF_nodup _ _ C.cn, by rw [putF_has _ hit]; exact C.cl, fun i x hx => ?_, fun i hi => ?_⟩, root, fun x hx => ?_, hids, tl, tne, .nil⟩
  · rw [lk_put] at hx
    split at hx
    · rename_i e
      obtain rfl := Option.some.inj hx
      rw [e]
      exact ⟨h1, h2.mix _ fun _ _ => hp, h3, h4, h5⟩
    · exact C.ci i x hx
  · rw [lk_put]
    split
    · exact ⟨_, rfl⟩
    · exact C.ch i hi
  · rw [lk_put] at hx
    split at hx
    · rename_i e
      obtain rfl := Option.some.inj hx
      subst e
      exact hz it hit
    · exact hz x hx
theorem GI.top (g : GI n w h up k t c) {id p : Int} (hup : lkF up id = some p) : GM n w h up (topK k p id) t c [] := by
  obtain ⟨⟨Q, C, root, hz, hids, tl, tne, _⟩, _, _⟩ := g
  exact ⟨⟨Q.w.top hup, Q.bt, Q.ok, Q.root, Q.ul⟩, C, root, hz, hids, tl, tne, .nil⟩
theorem GI.box (g : GI n w h up k t c) {id : Int} {b0 b1 : BW} (hid : id ≠ 1) (hb : lkF t id = some b0) (ok : b1.Ok) (M : MvOk mv) : GM n w h up k (putF t id b1) c mv := by
  obtain ⟨⟨Q, C, root, hz, hids, tl, tne, _⟩, _, _⟩ := g
  have hl := putF_has b1 hb
  have h1 : lkF (putF t id b1) 1 = lkF t 1 := lk_put_ne _ _ (Ne.symm hid)
  refine ⟨⟨Q.w, fun i hi => ?_, fun i x hx => ?_, by rw [h1]; exact Q.root, Q.ul⟩, C, by rw [h1]; exact root, hz, hids, by rw [hl]; exact tl, fun e => ?_, M⟩
  · rw [lk_put]
    split
    · exact ⟨_, rfl⟩
    · exact Q.bt i hi
  · rw [lk_put] at hx
    split at hx
    · obtain rfl := Option.some.inj hx
      exact ok
    · exact Q.ok i x hx
  · rw [e] at hl
    exact tne (List.length_eq_zero_iff.1 hl.symm)
theorem shF_0 (A : List RC) : shF 0 0 A = A := by
  unfold shF
  conv => rhs; rw [← List.map_id A]
  refine List.map_congr_left fun r _ => ?_
  obtain ⟨x, y, a, b⟩ := r
  simp [shR]
theorem vis_root (Q : PWOk k up t) : visF (vwF k up t) 1 = clF (vwF k up t) 1 := by
  unfold visF clF
  cases e : lkF (vwF k up t) 1 with
  | none => rfl
  | some s =>
    have q := Q.vw e
    have h1 := q.x; have h2 := q.y
    dsimp only at h1 h2 ⊢
    rw [h1, h2, Q.o_root.1, Q.o_root.2]
    exact shF_0 _
theorem MK.gm {l : List WI} {i : Nat} {L : List RW} (m : MK l i k up t c L) (hi : i ≤ 60) : ∃ (w h : Nat) (r : RW), (1 ≤ i ∧ w ≤ 16 ∧ h ≤ 16) ∧ L[0]? = some r ∧ r.w = (w : Int) ∧ r.h = (h : Int) ∧ GM i w h up k t c [] := by
  obtain ⟨a, r, h1, h2, h3, h4, h5, h6⟩ := m.root
  refine ⟨a.bw, a.bh, r, ⟨by have := m.ul; omega, ?_, ?_⟩, h2, h3, h4, m.pw hi, m.ci hi, h5, fun it h => ?_, m.has', by have := m.tl; omega, m.tne, .nil⟩
  · have := (m.tok _ _ h5).w; unfold rootB at this; dsimp only at this; omega
  · have := (m.tok _ _ h5).h; unfold rootB at this; dsimp only at this; omega
  · rw [h6] at h
    obtain rfl := Option.some.inj h
    exact ⟨rfl, rfl⟩
end
end Go.Proofs.YtfbegifmhgkpjaaGreat

/- Three variables made in a region that draws its order. No condition. -/
namespace Go.VM
open Go
set_option linter.unusedVariables false
set_option linter.unusedSimpArgs false
section
variable {ro : Option Nat} {P : Program} {n : Nat} {t : List (Nat × AV)} {h : Heap} {K : St → Prop} {ops : Array Oper} {hro : Heap} {todo : List Nat} {i : Nat} {d : Nat} {ty : Nat} {pos : String} {af : Array Edge}
theorem inL_tail {j : Nat} {l : List Nat} (h : inL (j :: l) i = false) : inL l i = false := by
  cases q : inL l i with
  | false => rfl
  | true => rw [← h]; exact (inL_iff.2 (.tail _ (inL_iff.1 q))).symm ▸ rfl
theorem R2.alloc3 {j l d' d2 e e' e2 ty' ty2 : Nat} {pos' pos2 : String} {af' af2 : Array Edge} {z z' z2 : List AV} [TZero P e z] [TZero P e' z'] [TZero P e2 z2]
    (k : ∀ b b' b2, R2 ro P ops K n hro todo ((d2, .val (.pointer (some ⟨b2, 0, none⟩))) :: (d', .val (.pointer (some ⟨b', 0, none⟩))) :: (d, .val (.pointer (some ⟨b, 0, none⟩))) :: t) (.box b2 z2 e2 :: .box b' z' e' :: .box b z e :: h))
    (hi : ops[i]? = some ⟨some d, .alloc e, ty, pos, af, none⟩ := by rfl) (hj : ops[j]? = some ⟨some d', .alloc e', ty', pos', af', none⟩ := by rfl) (hl : ops[l]? = some ⟨some d2, .alloc e2, ty2, pos2, af2, none⟩ := by rfl)
    (hr : (i :: j :: l :: todo).filter (rdy ops (i :: j :: l :: todo)) = [i, j, l] := by decide +kernel)
    (r1 : (j :: l :: todo).filter (rdy ops (j :: l :: todo)) = [j, l] := by decide +kernel) (r2 : (i :: l :: todo).filter (rdy ops (i :: l :: todo)) = [i, l] := by decide +kernel) (r3 : (i :: j :: todo).filter (rdy ops (i :: j :: todo)) = [i, j] := by decide +kernel)
    (s1 : (i :: todo).filter (rdy ops (i :: todo)) = [i] := by decide +kernel) (s2 : (j :: todo).filter (rdy ops (j :: todo)) = [j] := by decide +kernel) (s3 : (l :: todo).filter (rdy ops (l :: todo)) = [l] := by decide +kernel)
    (hn : Nat.blt d n = true := by rfl) (hn' : Nat.blt d' n = true := by rfl) (hn2 : Nat.blt d2 n = true := by rfl) (h1 : Nat.beq d d' = false := by rfl) (h2 : Nat.beq d d2 = false := by rfl) (h3 : Nat.beq d' d2 = false := by rfl)
    (q1 : inL (j :: l :: todo) i = false := by rfl) (q2 : inL (i :: l :: todo) j = false := by rfl) (q3 : inL (i :: j :: todo) l = false := by rfl) : R2 ro P ops K n hro (i :: j :: l :: todo) t h := by
  have n1 : d ≠ d' := fun e => by subst e; simp at h1
  have n2 : d ≠ d2 := fun e => by subst e; simp at h2
  have n3 : d' ≠ d2 := fun e => by subst e; simp at h3
  have a1 : inL (l :: todo) i = false := inL_tail q1
  have a3 : inL (l :: todo) j = false := inL_tail q2
  have a5 : inL (j :: todo) l = false := inL_tail q3
  have a2 : inL (j :: todo) i = false := by
    cases q : inL (j :: todo) i with
    | false => rfl
    | true =>
      rw [← q1]
      refine (inL_iff.2 ?_).symm ▸ rfl
      rcases List.mem_cons.1 (inL_iff.1 q) with e | e
      · rw [e]; exact .head _
      · exact .tail _ (.tail _ e)
  have a4 : inL (i :: todo) j = false := by
    cases q : inL (i :: todo) j with
    | false => rfl
    | true =>
      rw [← q2]
      refine (inL_iff.2 ?_).symm ▸ rfl
      rcases List.mem_cons.1 (inL_iff.1 q) with e | e
      · rw [e]; exact .head _
      · exact .tail _ (.tail _ e)
  have a6 : inL (i :: todo) l = false := by
    cases q : inL (i :: todo) l with
    | false => rfl
    | true =>
      rw [← q3]
      refine (inL_iff.2 ?_).symm ▸ rfl
      rcases List.mem_cons.1 (inL_iff.1 q) with e | e
      · rw [e]; exact .head _
      · exact .tail _ (.tail _ e)
  have ki : ∀ tr, Step P ⟨some d, .alloc e, ty, pos, af, none⟩ ⟨n, tr, h⟩ (fun s' => ∃ v, get s'.t d = some v ∧ R2 ro P ops K n hro (j :: l :: todo) ((d, v) :: t) s'.h) := fun tr =>
    S.alloc (fun b => kd (R2.alloc2 (fun b' b2 => k b b' b2) hj hl r1 s3 s2 hn' hn2 h3 a3 a5)) hn
  have kj : ∀ tr, Step P ⟨some d', .alloc e', ty', pos', af', none⟩ ⟨n, tr, h⟩ (fun s' => ∃ v, get s'.t d' = some v ∧ R2 ro P ops K n hro (i :: l :: todo) ((d', v) :: t) s'.h) := fun tr =>
    S.alloc (fun b' => kd (R2.alloc2 (fun b b2 => ((k b b' b2).permh (List.Perm.cons _ (List.Perm.swap _ _ _))).congt fun x => by
      simp only [get_eq]
      by_cases c1 : d2 = x
      · simp [c1]
      · by_cases c2 : d = x
        · have : d' ≠ x := fun e => n1 (c2.trans e.symm)
          simp [c1, c2, this]
        · simp [c1, c2]) hi hl r2 s3 s1 hn hn2 h2 a1 a6)) hn'
  have kl : ∀ tr, Step P ⟨some d2, .alloc e2, ty2, pos2, af2, none⟩ ⟨n, tr, h⟩ (fun s' => ∃ v, get s'.t d2 = some v ∧ R2 ro P ops K n hro (i :: j :: todo) ((d2, v) :: t) s'.h) := fun tr =>
    S.alloc (fun b2 => kd (R2.alloc2 (fun b b' => ((k b b' b2).permh ((List.Perm.swap _ _ _).trans (List.Perm.cons _ (List.Perm.swap _ _ _)))).congt fun x => by
      simp only [get_eq]
      by_cases c1 : d2 = x
      · have e1 : d' ≠ x := fun e => n3 (e.trans c1.symm)
        have e2 : d ≠ x := fun e => n2 (e.trans c1.symm)
        simp [c1, e1, e2]
      · simp [c1]) hi hj r3 s2 s1 hn hn' h1 a2 a4)) hn2
  refine .mk fun hok => DR.core hok (fun e => by cases e) fun q hq hrq => ?_
  have : q ∈ (i :: j :: l :: todo).filter (rdy ops (i :: j :: l :: todo)) := List.mem_filter.2 ⟨hq, hrq⟩
  rw [hr] at this
  simp at this
  rcases this with rfl | rfl | rfl
  · rw [readsAt_eq hi]
    refine ⟨_, eop_step hi (wanted_n rfl) (ki _) rfl hn, fun v h' hv => ?_⟩
    rw [dstAt_eq hi]
    exact (hv.go hok).congr (mem_filter_ne q1)
  · rw [readsAt_eq hj]
    refine ⟨_, eop_step hj (wanted_n rfl) (kj _) rfl hn', fun v h' hv => ?_⟩
    rw [dstAt_eq hj]
    refine (hv.go hok).congr fun x => ?_
    rw [← mem_filter_ne q2 x]
    simp only [List.mem_filter, List.mem_cons]
    constructor
    · rintro ⟨h1, h2⟩; exact ⟨by rcases h1 with h1 | h1 | h1 | h1 <;> simp [h1], h2⟩
    · rintro ⟨h1, h2⟩; exact ⟨by rcases h1 with h1 | h1 | h1 | h1 <;> simp [h1], h2⟩
  · rw [readsAt_eq hl]
    refine ⟨_, eop_step hl (wanted_n rfl) (kl _) rfl hn2, fun v h' hv => ?_⟩
    rw [dstAt_eq hl]
    refine (hv.go hok).congr fun x => ?_
    rw [← mem_filter_ne q3 x]
    simp only [List.mem_filter, List.mem_cons]
    constructor
    · rintro ⟨h1, h2⟩; exact ⟨by rcases h1 with h1 | h1 | h1 | h1 <;> simp [h1], h2⟩
    · rintro ⟨h1, h2⟩; exact ⟨by rcases h1 with h1 | h1 | h1 | h1 <;> simp [h1], h2⟩
end
end Go.VM
