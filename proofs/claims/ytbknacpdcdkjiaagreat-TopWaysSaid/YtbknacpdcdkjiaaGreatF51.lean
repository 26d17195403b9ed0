/- TopWays: what is made of the windows. No condition. -/
import Derived.Test.YtbknacpdcdkjiaaGreatF33
import Derived.Test.YtbknacpdcdkjiaaGreatVM39
namespace Go.Proofs.YtbknacpdcdkjiaaGreat
open Go Go.VM
set_option maxRecDepth 100000
attribute [local irreducible] PurV Pur Step RL W D ACalls Then InBlock Fini
set_option linter.unusedVariables false
set_option linter.unusedSimpArgs false
set_option maxHeartbeats 20000000
structure SP where
  (x y w h : Int) (m : Bool)
structure SP.Ok (s : SP) : Prop where
  x : -128 ≤ s.x ∧ s.x ≤ 127
  y : -128 ≤ s.y ∧ s.y ≤ 127
  w : 0 ≤ s.w ∧ s.w ≤ 255
  h : 0 ≤ s.h ∧ s.h ≤ 255
def SP.box (s : SP) : BW := ⟨s.x, s.y, s.w % 8 + 1, s.h % 8 + 1, s.m, 0, false, []⟩
theorem SP.Ok.box {s : SP} (k : s.Ok) : s.box.Ok := by
  have h1 := k.x; have h2 := k.y; have h3 := k.w; have h4 := k.h
  refine ⟨?_, ?_, ?_, ?_, ?_, Bx.nil _ _, fun _ => rfl⟩
  · show -128 ≤ s.x ∧ s.x ≤ 127; omega
  · show -128 ≤ s.y ∧ s.y ≤ 127; omega
  · show (1 : Int) ≤ s.w % 8 + 1 ∧ s.w % 8 + 1 ≤ 16; omega
  · show (1 : Int) ≤ s.h % 8 + 1 ∧ s.h % 8 + 1 ≤ 16; omega
  · show (0 : Int) ≤ 0 ∧ (0 : Int) ≤ 10; omega
structure WN where
  (u : Int) (was now : SP)
structure WN.Ok (w : WN) : Prop where
  u : 0 ≤ w.u ∧ w.u ≤ 255
  was : w.was.Ok
  now : w.now.Ok
def WN.enc (w : WN) : AV := .agg [AV.val (.int .u8 (w.u)), AV.val (.int .i8 ((w.was).x)), AV.val (.int .i8 ((w.was).y)), AV.val (.int .u8 ((w.was).w)), AV.val (.int .u8 ((w.was).h)), AV.val (.bool ((w.was).m)), AV.val (.int .i8 ((w.now).x)), AV.val (.int .i8 ((w.now).y)), AV.val (.int .u8 ((w.now).w)), AV.val (.int .u8 ((w.now).h)), AV.val (.bool ((w.now).m))]
def WN.up (w : WN) (i : Nat) : Nat := w.u.toNat % (i + 1)
structure GS where
  (k : SVT) (up : UP) (p q : PW)
def gsS (s : GS) (i : Nat) (w : WN) : GS := ⟨putF s.k (idT (w.up i)) (ofS s.k (idT (w.up i)) ++ [idT (i + 1)]), putF s.up (idT (i + 1)) (idT (w.up i)), putF s.p (idT (i + 1)) w.was.box, putF s.q (idT (i + 1)) w.now.box⟩
def gsF (l : List WN) : Nat → GS
  | 0 => ⟨[], [], [(1, rootB 12 10)], [(1, rootB 12 10)]⟩
  | i + 1 => match l[i]? with | some w => gsS (gsF l i) i w | none => gsF l i
structure GS.Ok (n : Nat) (s : GS) : Prop where
  p : KW n s.k s.up s.p
  q : KW n s.k s.up s.q
theorem gsF_ok {l : List WN} (hl : ∀ w ∈ l, w.Ok) : ∀ {i : Nat}, i ≤ l.length → (gsF l i).Ok i
  | 0, _ => ⟨KW.start (by omega) (by omega), KW.start (by omega) (by omega)⟩
  | i + 1, h => by
    have ih := gsF_ok hl (i := i) (by omega)
    have e : l[i]? = some (l[i]'(by omega)) := List.getElem?_eq_getElem (by omega)
    have ok := hl _ (List.mem_of_getElem? e)
    have hu : (l[i]'(by omega)).up i ≤ i := Nat.le_of_lt_succ (Nat.mod_lt _ (Nat.succ_pos i))
    show GS.Ok (i + 1) (match l[i]? with | some w => gsS (gsF l i) i w | none => gsF l i)
    rw [e]
    exact ⟨ih.p.succ hu ok.was.box, ih.q.succ hu ok.now.box⟩
theorem gsF_step {l : List WN} {i : Nat} {w : WN} (h : l[i]? = some w) : gsF l (i + 1) = gsS (gsF l i) i w := by
  show (match l[i]? with | some w => gsS (gsF l i) i w | none => gsF l i) = _
  rw [h]
theorem lid_c (n : Nat) (h : Heap) (hn : n ≤ 1000) : ACalls Tryz.prog 43 [AV.val (.int .i64 ((n : Int)))] h (fun r h' => r = AV.val (.int .u32 (idT n)) ∧ h' = h) := by
  unfold idT
  by_cases h0 : n = 0
  · subst h0
    refine ACalls.intro Tryz.func43 rfl Tryz.ntmps43 Tryz.results43 (Nat.le_of_ble_eq_true rfl) ?_
    (repeat' (first|refine svz ⟨fun b hq=>?_⟩|refine svA ⟨?_⟩|refine svu ⟨fun u=>?_⟩|(refine svG (fun hg=>?_) (fun hg=>?_)<;>try exact svx)|refine svh (fun hb=>?_) (fun hb=>?_)|refine svb (fun b=>?_)|fail))
    exact fin_r (h' := h) ⟨rfl, rfl⟩
  · rw [if_neg h0]
    refine ACalls.intro Tryz.func43 rfl Tryz.ntmps43 Tryz.results43 (Nat.le_of_ble_eq_true rfl) ?_
    (repeat' (first|refine svz ⟨fun b hq=>?_⟩|refine svA ⟨?_⟩|refine svu ⟨fun u=>?_⟩|(refine svG (fun hg=>?_) (fun hg=>?_)<;>try exact svx)|refine svh (fun hb=>?_) (fun hb=>?_)|refine svb (fun b=>?_)|fail))
    exact fin_r (h' := h) ⟨rfl, rfl⟩
theorem wmade_c (l : List WN) (H : Heap) (hl6 : l.length ≤ 6) (okl : ∀ w ∈ l, w.Ok) :
    ACalls Tryz.prog 13 [.ro 11 (l.map WN.enc)] H (fun r h' => r = .tup [encT (gsF l l.length).k (gsF l l.length).up, .agg [AV.ro 1 (ints .u32 (orF (gsF l l.length).k (gsF l l.length).up (gsF l l.length).p)), mapV .u32 vSW (vwF (gsF l l.length).k (gsF l l.length).up (gsF l l.length).p), AV.ro 1 (ints .u32 (orF (gsF l l.length).k (gsF l l.length).up (gsF l l.length).q)), mapV .u32 vSW (vwF (gsF l l.length).k (gsF l l.length).up (gsF l l.length).q)], AV.val (.bool (true))] ∧ h' = H) := by
  have nw := fun h => new_c h
  have pn := fun h => pnew_c 12 10 h (by decide) (by decide)
  unfold encP at pn
  unfold encT at nw
  refine ACalls.intro Tryz.func13 rfl Tryz.ntmps13 Tryz.results13 (Nat.le_of_ble_eq_true rfl) ?_
  (repeat' (first|refine svz ⟨fun b hq=>?_⟩|refine svA ⟨?_⟩|refine svu ⟨fun u=>?_⟩|(refine svG (fun hg=>?_) (fun hg=>?_)<;>try exact svx)|refine svh (fun hb=>?_) (fun hb=>?_)|refine svb (fun b=>?_)|fail))
  rename_i b2
  revert b; intro b3
  refine S.call ?_; refine (nw _).mono ?_; rintro r h' ⟨rfl, hh⟩; subst hh
  (repeat' (first|refine svz ⟨fun b hq=>?_⟩|refine svA ⟨?_⟩|refine svu ⟨fun u=>?_⟩|(refine svG (fun hg=>?_) (fun hg=>?_)<;>try exact svx)|refine svh (fun hb=>?_) (fun hb=>?_)|refine svb (fun b=>?_)|fail))
  revert b; intro b5
  refine S.call ?_; refine (pn _).mono ?_; rintro r h' ⟨rfl, hh⟩; subst hh
  clear nw pn
  (repeat' (first|refine svz ⟨fun b hq=>?_⟩|refine svA ⟨?_⟩|refine svu ⟨fun u=>?_⟩|(refine svG (fun hg=>?_) (fun hg=>?_)<;>try exact svx)|refine svh (fun hb=>?_) (fun hb=>?_)|refine svb (fun b=>?_)|fail))
  rename_i b6
  revert b; intro b8
  refine W.loop (J := fun i : Nat => ⟨122, [(30, AV.val (.int .i64 ((i : Int)))), (29, AV.val (.int .i64 ((l.length : Int)))), (28, .ro 11 (l.map WN.enc)), (8, .val (.pointer (some ⟨b8, 0, none⟩))), (6, .val (.pointer (some ⟨b6, 0, none⟩))), (5, .val (.pointer (some ⟨b5, 0, none⟩))), (4, AV.val (.bool (false))), (3, .val (.pointer (some ⟨b3, 0, none⟩))), (2, .val (.pointer (some ⟨b2, 0, none⟩)))], .box b8 [mapV .u32 vBox ((gsF l i).q)] 106 :: .box b6 [mapV .u32 vBox ((gsF l i).p)] 106 :: .box b5 [mapV .u32 vIds ((gsF l i).k), mapV .u32 (vI .u32) ((gsF l i).up)] 28 :: .box b3 [.val (.slice none 0 0), .val (.map none), .val (.slice none 0 0), .val (.map none)] 72 :: .box b2 [.val (.map none), .val (.map none)] 28 :: H⟩) (Φ := fun i => i ≤ l.length) (μ := fun i => l.length - i) 0 lee (Nat.zero_le _) ?_
  rintro i hi
  dsimp only
  have ok := gsF_ok okl hi
  rcases Nat.lt_or_ge i l.length with hlt | hge
  · obtain ⟨w, hw⟩ : ∃ w, l[i]? = some w := ⟨_, List.getElem?_eq_getElem hlt⟩
    have hs := gsF_step hw
    have okw := okl w (List.mem_of_getElem? hw)
    obtain ⟨hu1, hu2⟩ := okw.u
    obtain ⟨n, hn⟩ : ∃ n, n = w.up i := ⟨_, rfl⟩
    have hnl : n ≤ i := by rw [hn]; exact Nat.le_of_lt_succ (Nat.mod_lt _ (Nat.succ_pos i))
    have q : Unit → w.u % ((i : Int) + 1) = (n : Int) := fun _ => by
      rw [hn]; unfold WN.up; rw [Int.natCast_emod, Int.toNat_of_nonneg hu1]; push_cast; rfl
    have l1 := fun h => lid_c (i + 1) h (by omega)
    have l2 := fun h => lid_c n h (by omega)
    rw [show ((i + 1 : Nat) : Int) = (i : Int) + 1 by push_cast; rfl] at l1
    have hib := idT_bd (n := i + 1) (by omega)
    have hic := idT_ic (n := i + 1) (by omega)
    have hid1 := idT_0 (j := i + 1) (by omega)
    have kp := ok.p
    have kq := ok.q
    have ad := fun h => add_c (gsF l i).k (gsF l i).up (idT (i + 1)) (idT n) h (by omega) hib.2 hic (kp.no (Nat.lt_succ_self i)).2 (kp.has' n hnl) (by rw [kp.ul]; omega) kp.tw.kn kp.tw.un (fun p hp => by have := kp.tw.ol p hp; have := kp.ul; omega) (by have := kp.tw.ofl (idT n); have := kp.ul; omega) (by have := kp.tw.kl; have := kp.ul; omega)
    have ps := fun h => pset_c (gsF l i).p (idT (i + 1)) w.was.box h (by omega) hib.2 hid1 hic okw.was.box kp.tne (by have := kp.tl; omega)
    have qs := fun h => pset_c (gsF l i).q (idT (i + 1)) w.now.box h (by omega) hib.2 hid1 hic okw.now.box kq.tne (by have := kq.tl; omega)
    unfold gsS at hs
    rw [← hn] at hs
    have o1 := okw.was
    have o2 := okw.now
    clear ok kp kq okw hn
    generalize gsF l i = f at *
    obtain ⟨k, up, p, q2⟩ := f
    dsimp only at ad ps qs hs ⊢
    generalize putF k (idT n) (ofS k (idT n) ++ [idT (i + 1)]) = k2 at *
    generalize putF up (idT (i + 1)) (idT n) = up2 at *
    generalize putF p (idT (i + 1)) w.was.box = p2 at *
    generalize putF q2 (idT (i + 1)) w.now.box = q3 at *
    rw [show vBox w.was.box = .agg [AV.val (.int .i64 ((w.was).x)), AV.val (.int .i64 ((w.was).y)), AV.val (.int .i64 ((w.was).w % 8 + 1)), AV.val (.int .i64 ((w.was).h % 8 + 1)), AV.val (.bool ((w.was).m)), AV.val (.int .i64 (0)), AV.val (.int .i64 (0)), AV.val (.bool (false)), .ro 4 []] from rfl] at ps
    rw [show vBox w.now.box = .agg [AV.val (.int .i64 ((w.now).x)), AV.val (.int .i64 ((w.now).y)), AV.val (.int .i64 ((w.now).w % 8 + 1)), AV.val (.int .i64 ((w.now).h % 8 + 1)), AV.val (.bool ((w.now).m)), AV.val (.int .i64 (0)), AV.val (.int .i64 (0)), AV.val (.bool (false)), .ro 4 []] from rfl] at qs
    generalize idT (i + 1) = id at *
    generalize idT n = idn at *
    have ps2 := fun h => (ps h).args (vs := [encP p, AV.val (.int .u32 (id)), .agg [AV.val (.int .i64 ((w.was).x)), AV.val (.int .i64 ((w.was).y)), AV.val (.int .i64 ((w.was).w % 8 + 1)), AV.val (.int .i64 ((w.was).h % 8 + 1)), AV.val (.bool ((w.was).m)), AV.val (.int .i64 (0)), AV.val (.int .i64 (0)), AV.val (.bool (false)), .val (.slice none 0 0)]]) (by (repeat (first | exact Wk.refl _ | exact Wk.nilr _ | exact Wk.nilm | apply Wk.aggc | apply Wk.tupc | exact Wk.aggn | exact Wk.tupn)); first | done | fail)
    have qs2 := fun h => (qs h).args (vs := [encP q2, AV.val (.int .u32 (id)), .agg [AV.val (.int .i64 ((w.now).x)), AV.val (.int .i64 ((w.now).y)), AV.val (.int .i64 ((w.now).w % 8 + 1)), AV.val (.int .i64 ((w.now).h % 8 + 1)), AV.val (.bool ((w.now).m)), AV.val (.int .i64 (0)), AV.val (.int .i64 (0)), AV.val (.bool (false)), .val (.slice none 0 0)]]) (by (repeat (first | exact Wk.refl _ | exact Wk.nilr _ | exact Wk.nilm | apply Wk.aggc | apply Wk.tupc | exact Wk.aggn | exact Wk.tupn)); first | done | fail)
    clear ps qs
    unfold encT encP at *
    obtain ⟨ox1, ox2⟩ := o1.x; obtain ⟨oy1, oy2⟩ := o1.y; obtain ⟨ow1, ow2⟩ := o1.w; obtain ⟨oh1, oh2⟩ := o1.h
    obtain ⟨nx1, nx2⟩ := o2.x; obtain ⟨ny1, ny2⟩ := o2.y; obtain ⟨nw1, nw2⟩ := o2.w; obtain ⟨nh1, nh2⟩ := o2.h
    clear o1 o2
    (repeat' (first|refine svz ⟨fun b hq=>?_⟩|refine svA ⟨?_⟩|refine svu ⟨fun u=>?_⟩|(refine svG (fun hg=>?_) (fun hg=>?_)<;>try exact svx)|refine svh (fun hb=>?_) (fun hb=>?_)|refine svb (fun b=>?_)|fail))
    refine R2.C (l1 _) ?_
    (repeat' (first|refine svz ⟨fun b hq=>?_⟩|refine svA ⟨?_⟩|refine svu ⟨fun u=>?_⟩|(refine svG (fun hg=>?_) (fun hg=>?_)<;>try exact svx)|refine svh (fun hb=>?_) (fun hb=>?_)|refine svb (fun b=>?_)|fail))
    rw [q ()]
    refine R2.C (l2 _) ?_
    (repeat' (first|refine svz ⟨fun b hq=>?_⟩|refine svA ⟨?_⟩|refine svu ⟨fun u=>?_⟩|(refine svG (fun hg=>?_) (fun hg=>?_)<;>try exact svx)|refine svh (fun hb=>?_) (fun hb=>?_)|refine svb (fun b=>?_)|fail))
    refine R2.C (ad _) ?_
    (repeat' (first | (refine iS ?_; refine iN ?_; first | refine S.build1r ?_ | refine S.build2r ?_ | refine S.build3r ?_) | (refine iR2 ?_; refine r2b ?_; refine R2.one ?_) | (refine iS ?_; refine iMu ?_; refine S.mapU ?_) | refine svz ⟨fun b hq=>?_⟩|refine svT ⟨?_⟩|refine svu ⟨fun u=>?_⟩|(refine svG (fun hg=>?_) (fun hg=>?_)<;>try exact svx)|refine svh (fun hb=>?_) (fun hb=>?_)|refine svb (fun b=>?_) | refine sva ?_ | refine sv3 ?_ | fail))
    rename_i b10
    revert b; intro b11
    refine W.loop (J := fun z : Nat × PW × PW => ⟨122, [(61, AV.val (.int .i64 ((z.1 : Nat)))), (60, AV.val (.int .i64 (2))), (59, .ro 5 [.agg [AV.val (.int .i8 ((w.was).x)), AV.val (.int .i8 ((w.was).y)), AV.val (.int .u8 ((w.was).w)), AV.val (.int .u8 ((w.was).h)), AV.val (.bool ((w.was).m))], .agg [AV.val (.int .i8 ((w.now).x)), AV.val (.int .i8 ((w.now).y)), AV.val (.int .u8 ((w.now).w)), AV.val (.int .u8 ((w.now).h)), AV.val (.bool ((w.now).m))]]), (9, AV.val (.int .i64 ((i : Int)))), (30, AV.val (.int .i64 ((i : Int)))), (29, AV.val (.int .i64 ((l.length : Int)))), (28, .ro 11 (l.map WN.enc)), (8, .val (.pointer (some ⟨b8, 0, none⟩))), (6, .val (.pointer (some ⟨b6, 0, none⟩))), (5, .val (.pointer (some ⟨b5, 0, none⟩))), (4, AV.val (.bool (false))), (3, .val (.pointer (some ⟨b3, 0, none⟩))), (2, .val (.pointer (some ⟨b2, 0, none⟩)))], .box b8 [mapV .u32 vBox (z.2.2)] 106 :: .box b6 [mapV .u32 vBox (z.2.1)] 106 :: .box b5 [mapV .u32 vIds (k2), mapV .u32 (vI .u32) (up2)] 28 :: .box b3 [.val (.slice none 0 0), .val (.map none), .val (.slice none 0 0), .val (.map none)] 72 :: .box b2 [.val (.map none), .val (.map none)] 28 :: H⟩)
      (Φ := fun z => z = (0, p, q2) ∨ z = (1, p2, q2) ∨ z = (2, p2, q3)) (μ := fun z => 2 - z.1) (0, p, q2) lee (.inl rfl) ?_
    clear q l2 ad
    rintro z (rfl | rfl | rfl)
    · clear qs2 hs
      (repeat' (first|refine svz ⟨fun b hq=>?_⟩|refine svA ⟨?_⟩|refine svu ⟨fun u=>?_⟩|(refine svG (fun hg=>?_) (fun hg=>?_)<;>try exact svx)|refine svh (fun hb=>?_) (fun hb=>?_)|refine svb (fun b=>?_)|fail))
      refine R2.C (l1 _) ?_
      (repeat' (first|refine svz ⟨fun b hq=>?_⟩|refine svA ⟨?_⟩|refine svu ⟨fun u=>?_⟩|(refine svG (fun hg=>?_) (fun hg=>?_)<;>try exact svx)|refine svh (fun hb=>?_) (fun hb=>?_)|refine svb (fun b=>?_)|fail))
      refine R2.C (ps2 _) ?_
      (repeat' (first|refine svz ⟨fun b hq=>?_⟩|refine svA ⟨?_⟩|refine svu ⟨fun u=>?_⟩|(refine svG (fun hg=>?_) (fun hg=>?_)<;>try exact svx)|refine svh (fun hb=>?_) (fun hb=>?_)|refine svb (fun b=>?_)|fail))
      exact ⟨(1, p2, q2), .inr (.inl rfl), lee, by dsimp only; omega⟩
    · clear ps2 hs
      (repeat' (first|refine svz ⟨fun b hq=>?_⟩|refine svA ⟨?_⟩|refine svu ⟨fun u=>?_⟩|(refine svG (fun hg=>?_) (fun hg=>?_)<;>try exact svx)|refine svh (fun hb=>?_) (fun hb=>?_)|refine svb (fun b=>?_)|fail))
      refine R2.C (l1 _) ?_
      (repeat' (first|refine svz ⟨fun b hq=>?_⟩|refine svA ⟨?_⟩|refine svu ⟨fun u=>?_⟩|(refine svG (fun hg=>?_) (fun hg=>?_)<;>try exact svx)|refine svh (fun hb=>?_) (fun hb=>?_)|refine svb (fun b=>?_)|fail))
      refine R2.C (qs2 _) ?_
      (repeat' (first|refine svz ⟨fun b hq=>?_⟩|refine svA ⟨?_⟩|refine svu ⟨fun u=>?_⟩|(refine svG (fun hg=>?_) (fun hg=>?_)<;>try exact svx)|refine svh (fun hb=>?_) (fun hb=>?_)|refine svb (fun b=>?_)|fail))
      exact ⟨(2, p2, q3), .inr (.inr rfl), lee, by dsimp only; omega⟩
    · clear ps2 qs2 l1
      (repeat' (first|refine svz ⟨fun b hq=>?_⟩|refine svA ⟨?_⟩|refine svu ⟨fun u=>?_⟩|(refine svG (fun hg=>?_) (fun hg=>?_)<;>try exact svx)|refine svh (fun hb=>?_) (fun hb=>?_)|refine svb (fun b=>?_)|fail))
      exact ⟨i + 1, hlt, by rw [hs]; exact lee, by omega⟩
  · have e : i = l.length := by omega
    subst e
    have Q1 := ok.p.pw (by omega)
    have Q2 := ok.q.pw (by omega)
    have hul := ok.p.ul
    have vo1 := fun h => vof_c (gsF l l.length).k (gsF l l.length).up (gsF l l.length).p Q1 h (by have := bel_len Q1.w ((gsF l l.length).up.length + 1); omega)
    have vo2 := fun h => vof_c (gsF l l.length).k (gsF l l.length).up (gsF l l.length).q Q2 h (by have := bel_len Q2.w ((gsF l l.length).up.length + 1); omega)
    unfold encV at vo1 vo2
    clear Q1 Q2 hul ok
    generalize orF (gsF l l.length).k (gsF l l.length).up (gsF l l.length).p = O1 at *
    generalize vwF (gsF l l.length).k (gsF l l.length).up (gsF l l.length).p = V1 at *
    generalize orF (gsF l l.length).k (gsF l l.length).up (gsF l l.length).q = O2 at *
    generalize vwF (gsF l l.length).k (gsF l l.length).up (gsF l l.length).q = V2 at *
    generalize gsF l l.length = f at *
    obtain ⟨k, up, p, q⟩ := f
    dsimp only at *
    unfold encT encP at *
    (repeat' (first|refine svz ⟨fun b hq=>?_⟩|refine svA ⟨?_⟩|refine svu ⟨fun u=>?_⟩|(refine svG (fun hg=>?_) (fun hg=>?_)<;>try exact svx)|refine svh (fun hb=>?_) (fun hb=>?_)|refine svb (fun b=>?_)|fail))
    refine W.dr (.ro (.ro (.ro (.rw (.rw (.done _)))))) ?_
    (repeat' (first|refine svz ⟨fun b hq=>?_⟩|refine svA ⟨?_⟩|refine svu ⟨fun u=>?_⟩|(refine svG (fun hg=>?_) (fun hg=>?_)<;>try exact svx)|refine svh (fun hb=>?_) (fun hb=>?_)|refine svb (fun b=>?_)|fail))
    refine R2.C (vo1 _) ?_
    (repeat' (first|refine svz ⟨fun b hq=>?_⟩|refine svA ⟨?_⟩|refine svu ⟨fun u=>?_⟩|(refine svG (fun hg=>?_) (fun hg=>?_)<;>try exact svx)|refine svh (fun hb=>?_) (fun hb=>?_)|refine svb (fun b=>?_)|fail))
    refine R2.C (vo2 _) ?_
    (repeat' (first|refine svz ⟨fun b hq=>?_⟩|refine svA ⟨?_⟩|refine svu ⟨fun u=>?_⟩|(refine svG (fun hg=>?_) (fun hg=>?_)<;>try exact svx)|refine svh (fun hb=>?_) (fun hb=>?_)|refine svb (fun b=>?_)|fail))
    refine R2.T (v := .agg [AV.ro 1 (ints .u32 (O1)), mapV .u32 vSW V1, AV.ro 1 (ints .u32 (O2)), mapV .u32 vSW V2]) ?_ (hp := .l rfl (pur_buildark (by repeat (first | exact EvalP.nil | (apply EvalP.cons; rfl))) rfl).pur)
    (repeat' (first|refine svz ⟨fun b hq=>?_⟩|refine svA ⟨?_⟩|refine svu ⟨fun u=>?_⟩|(refine svG (fun hg=>?_) (fun hg=>?_)<;>try exact svx)|refine svh (fun hb=>?_) (fun hb=>?_)|refine svb (fun b=>?_)|fail))
    exact fin_r (h' := H) ⟨rfl, rfl⟩
end Go.Proofs.YtbknacpdcdkjiaaGreat
