/- TopShows. No condition. -/
import Derived.Test.YtfbegifmhgkpjaaGreatVM39
namespace Go.Proofs.YtfbegifmhgkpjaaGreat
open Go Go.VM
attribute [local irreducible] PurV Pur Step RL W D ACalls Then InBlock Fini
set_option linter.unusedVariables false
set_option linter.unusedSimpArgs false
set_option maxHeartbeats 20000000
structure SA.Ok (a : SA) : Prop where
  d : 0 ≤ a.dO ∧ a.dO ≤ 255
  at' : 0 ≤ a.at' ∧ a.at' ≤ 255
  x : -128 ≤ a.x ∧ a.x ≤ 127
  y : -128 ≤ a.y ∧ a.y ≤ 127
  w : 0 ≤ a.w ∧ a.w ≤ 255
  h : 0 ≤ a.h ∧ a.h ≤ 255
  sx : I64 a.sh.dx
  sy : I64 a.sh.dy
  r : a.r.ok
  ink : 0 ≤ a.ink ∧ a.ink ≤ 255
set_option maxRecDepth 100000 in
theorem shows_c (l : List WI) (acts : List SA) (H : Heap) (hl : l.length ≤ 9223372036854775807) (ha : acts.length ≤ 9223372036854775807) (okl : ∀ a ∈ l, a.Ok) (oka : ∀ a ∈ acts, a.Ok) :
    ACalls Tryz.prog 3 [.ro 9 (l.map WI.enc), .ro 15 (acts.map SA.enc)] H (fun r h' => r = .val (.bool (true)) ∧ h' = H) := by
  have mk := fun h => make_c l h hl okl
  have aw := awake_c
  refine ACalls.intro Tryz.func3 rfl Tryz.ntmps3 Tryz.results3 (Nat.le_of_ble_eq_true rfl) ?_
  (repeat' (first|refine svz ⟨fun b hq=>?_⟩|refine svA ⟨?_⟩|refine svu ⟨fun u=>?_⟩|(refine svG (fun hg=>?_) (fun hg=>?_)<;>try exact svx)|refine svh (fun hb=>?_) (fun hb=>?_)|refine svb (fun b=>?_)|fail))
  refine S.call ?_; refine (aw _).mono ?_; rintro r h' ⟨rfl, hh⟩; subst hh
  revert h'; intro H
  (repeat' (first|refine svz ⟨fun b hq=>?_⟩|refine svA ⟨?_⟩|refine svu ⟨fun u=>?_⟩|(refine svG (fun hg=>?_) (fun hg=>?_)<;>try exact svx)|refine svh (fun hb=>?_) (fun hb=>?_)|refine svb (fun b=>?_)|fail))
  refine S.call ?_
  refine (mk _).mono ?_
  rintro r h' ⟨v, k0, up, t0, c0, L, q, rfl, hh, hq1, hq2⟩
  subst hh
  clear mk aw
  cases q with
  | false =>
    (repeat' (first|refine svz ⟨fun b hq=>?_⟩|refine svA ⟨?_⟩|refine svu ⟨fun u=>?_⟩|(refine svG (fun hg=>?_) (fun hg=>?_)<;>try exact svx)|refine svh (fun hb=>?_) (fun hb=>?_)|refine svb (fun b=>?_)|fail))
    exact fin_r (h' := H) ⟨rfl, rfl⟩
  | true =>
    obtain ⟨hll, m⟩ := hq1 rfl
    clear hq1 hq2
    by_cases hac : acts.length ≤ 12
    rotate_left
    · (repeat' (first|refine svz ⟨fun b hq=>?_⟩|refine svA ⟨?_⟩|refine svu ⟨fun u=>?_⟩|(refine svG (fun hg=>?_) (fun hg=>?_)<;>try exact svx)|refine svh (fun hb=>?_) (fun hb=>?_)|refine svb (fun b=>?_)|fail))
      exact fin_r (h' := H) ⟨rfl, rfl⟩
    obtain ⟨w0, h0, r0, hw0, hL0, hrw, hrh, g0⟩ := m.gm (by omega)
    obtain ⟨q1, q2, q3, q4, q5, q6, q7, q8, q9⟩ := r0
    dsimp only at hrw hrh
    subst hrw
    subst hrh
    have hLl : 0 < L.length := (List.getElem?_eq_some_iff.1 hL0).1
    clear m
    (repeat' ((fail_if_success (refine drg ?_)); (first|refine svz ⟨fun b hq=>?_⟩|refine svA ⟨?_⟩|refine svu ⟨fun u=>?_⟩|(refine svG (fun hg=>?_) (fun hg=>?_)<;>try exact svx)|refine svh (fun hb=>?_) (fun hb=>?_)|refine svb (fun b=>?_)|fail)))
    revert b; intro b5
    refine W.frz (v := v) (by (fail_if_success (apply tkG)); (repeat (first | exact Tk.here | apply Tk.there)); first | done | fail) (by repeat' (first | apply FrzT.cons | exact FrzT.rest _ | exact Frz.hit | apply Frz.aggc | apply Frz.tupc | exact Frz.aggn | exact Frz.tupn | exact Frz.keep _)) (by repeat' (first | apply FrzH.box | apply FrzH.keep | exact FrzH.rest _ | exact Frz.hit | apply Frz.aggc | apply Frz.tupc | exact Frz.aggn | exact Frz.tupn | exact Frz.keep _)) ?_
    refine W.dr (.ro (.done _)) ?_
    (repeat' (first|refine svz ⟨fun b hq=>?_⟩|refine svA ⟨?_⟩|refine svu ⟨fun u=>?_⟩|(refine svG (fun hg=>?_) (fun hg=>?_)<;>try exact svx)|refine svh (fun hb=>?_) (fun hb=>?_)|refine svb (fun b=>?_)|fail))
    refine R2.alloc3 (fun b7 b8 b9 => ?_)
    (repeat' (first|refine svz ⟨fun b hq=>?_⟩|refine svA ⟨?_⟩|refine svu ⟨fun u=>?_⟩|(refine svG (fun hg=>?_) (fun hg=>?_)<;>try exact svx)|refine svh (fun hb=>?_) (fun hb=>?_)|refine svb (fun b=>?_)|fail))
    have Q0 := g0.Q
    have C0 := g0.C
    have ov0 := Q0.vok
    have vo0 := fun h => vof_c k0 up t0 Q0 h (by have := bel_len Q0.w (up.length + 1); have := Q0.ul; omega)
    have hol : (orF k0 up t0).length ≤ 100 := by have := List.length_filter_le (fun id => (lkF (vwF k0 up t0) id).isSome) (belF (ofS k0) (up.length + 1) 1); have := bel_len Q0.w (up.length + 1); have := Q0.ul; unfold orF; omega
    have ch0 := fun h => cchange_c c0 (orF k0 up t0) (orF k0 up t0) (vwF k0 up t0) (vwF k0 up t0) t0 [] h C0.cn C0.cl g0.iok ov0 ov0 (by omega)
    have g1 := g0.step ov0
    generalize chC (vwF k0 up t0) (vwF k0 up t0) t0 [] c0 = c1 at *
    rw [show encV k0 up t0 = encW (orF k0 up t0) (vwF k0 up t0) from rfl] at vo0
    clear Q0 C0 ov0 g0
    generalize vwF k0 up t0 = V0 at *
    generalize orF k0 up t0 = O0 at *
    unfold encT encP encW encC at *
    refine Step.le (s' := ⟨276, [(45, .agg [mapV .u32 vBox t0]), (44, .agg [mapV .u32 vIds k0, mapV .u32 (vI .u32) up]), (9, .val (.pointer (some ⟨b9, 0, none⟩))), (8, .val (.pointer (some ⟨b8, 0, none⟩))), (7, .val (.pointer (some ⟨b7, 0, none⟩))), (5, .val (.pointer (some ⟨b5, 0, none⟩))), (4, .val (.bool (false))), (0, .ro 9 (l.map WI.enc)), (1, .ro 15 (acts.map SA.enc))], .box b9 [mapV .u32 vIt (c0)] 34 :: .box b8 [mapV .u32 vBox (t0)] 31 :: .box b7 [mapV .u32 vIds (k0), mapV .u32 (vI .u32) up] 28 :: .box b5 [mapV .u32 vIds k0, mapV .u32 (vI .u32) up, mapV .u32 vBox t0, mapV .u32 vIt c0, .ro 9 (L.map RW.enc)] 37 :: H⟩) lee ?_
    refine S.call ?_; refine (vo0 _).mono ?_; rintro r h' ⟨rfl, hh⟩; subst hh
    (repeat' (first|refine svz ⟨fun b hq=>?_⟩|refine svA ⟨?_⟩|refine svu ⟨fun u=>?_⟩|(refine svG (fun hg=>?_) (fun hg=>?_)<;>try exact svx)|refine svh (fun hb=>?_) (fun hb=>?_)|refine svb (fun b=>?_)|fail))
    revert b; intro b10
    refine S.call ?_
    refine (ACalls.args (by (repeat (first | exact Wk.refl _ | exact Wk.nilr _ | exact Wk.nilm | apply Wk.aggc | apply Wk.tupc | exact Wk.aggn | exact Wk.tupn)); first | done | fail) (ch0 _)).mono ?_
    rintro r h' ⟨l2, rfl, hh⟩
    subst hh
    (repeat' (first|refine svz ⟨fun b hq=>?_⟩|refine svA ⟨?_⟩|refine svu ⟨fun u=>?_⟩|(refine svG (fun hg=>?_) (fun hg=>?_)<;>try exact svx)|refine svh (fun hb=>?_) (fun hb=>?_)|refine svb (fun b=>?_)|fail))
    clear vo0 ch0 hol
    refine W.loop (J := fun z : Nat × SVT × PW × CN => ⟨276, [(57, .val (.int .i64 ((z.1 : Nat)))), (56, .val (.int .i64 ((acts.length : Int)))), (55, .ro 15 (acts.map SA.enc)), (9, .val (.pointer (some ⟨b9, 0, none⟩))), (8, .val (.pointer (some ⟨b8, 0, none⟩))), (7, .val (.pointer (some ⟨b7, 0, none⟩))), (5, .val (.pointer (some ⟨b5, 0, none⟩))), (4, .val (.bool (false))), (0, .ro 9 (l.map WI.enc))], .box b9 [mapV .u32 vIt (z.2.2.2)] 34 :: .box b8 [mapV .u32 vBox (z.2.2.1)] 31 :: .box b7 [mapV .u32 vIds (z.2.1), mapV .u32 (vI .u32) up] 28 :: .box b5 [mapV .u32 vIds k0, mapV .u32 (vI .u32) up, mapV .u32 vBox t0, mapV .u32 vIt c0, .ro 9 (L.map RW.enc)] 37 :: H⟩)
      (Φ := fun z => z.1 ≤ acts.length ∧ GI l.length w0 h0 up z.2.1 z.2.2.1 z.2.2.2) (μ := fun z => acts.length - z.1) (0, k0, t0, c1) lee ⟨Nat.zero_le _, g1⟩ ?_
    clear g1
    rintro ⟨i, k, t, c⟩ ⟨hi, G⟩
    dsimp only at hi G ⊢
    have Q := G.m.Q
    have C := G.m.C
    have ov := Q.vok
    rcases Nat.lt_or_ge i acts.length with hlt | hge
    · obtain ⟨a, haa⟩ : ∃ a, acts[i]? = some a := ⟨_, List.getElem?_eq_getElem hlt⟩
      have ka := oka a (List.mem_of_getElem? haa)
      have pe : a.enc = .agg [.val (.int .u8 (a.dO)), .val (.int .u8 (a.at')), .val (.int .i8 (a.x)), .val (.int .i8 (a.y)), .val (.int .u8 (a.w)), .val (.int .u8 (a.h)), .val (.bool (a.mp)), .val (.int .i64 (a.sh.dx)), .val (.int .i64 (a.sh.dy)), .val (.bool (a.sh.fg)), .val (.int .i64 (a.r.x)), .val (.int .i64 (a.r.y)), .val (.int .i64 (a.r.w)), .val (.int .i64 (a.r.h)), .val (.int .u8 (a.ink))] := rfl
      have kdo := ka.d; have kat := ka.at'; have kx := ka.x; have ky := ka.y; have kw := ka.w; have kh := ka.h; have kink := ka.ink
      obtain ⟨n, hn⟩ : ∃ n, n = a.at'.toNat % l.length := ⟨_, rfl⟩
      have hnl : n < l.length := by rw [hn]; exact Nat.mod_lt _ (by omega)
      have q : Unit → a.at' % (l.length : Int) = ((n : Nat) : Int) := fun _ => by
        rw [hn, Int.natCast_emod, Int.toNat_of_nonneg kat.1]
      have si := fun h => sid_c n h (by omega)
      have hid := G.m.hids n hnl
      have hib := idT_bd (n := n) (by omega)
      have hic := idT_ic (n := n) (by omega)
      generalize idT n = id at *
      clear hn
      by_cases hk : (-100 ≤ a.r.x ∧ a.r.x ≤ 100) ∧ (-100 ≤ a.r.y ∧ a.r.y ≤ 100) ∧ (a.r.w ≤ 100 ∧ a.r.h ≤ 100) ∧ (-20 ≤ a.sh.dx ∧ a.sh.dx ≤ 20) ∧ -20 ≤ a.sh.dy ∧ a.sh.dy ≤ 20
      rotate_left
      · clear Q C ov G
        (repeat' (first|refine svz ⟨fun b hq=>?_⟩|refine svA ⟨?_⟩|refine svu ⟨fun u=>?_⟩|(refine svG (fun hg=>?_) (fun hg=>?_)<;>try exact svx)|refine svh (fun hb=>?_) (fun hb=>?_)|refine svb (fun b=>?_)|fail))
        rw [q ()]
        clear q
        refine S.call ?_; refine (si _).mono ?_; rintro r h' ⟨rfl, hh⟩; subst hh
        (repeat' (first|refine svz ⟨fun b hq=>?_⟩|refine svA ⟨?_⟩|refine svu ⟨fun u=>?_⟩|(refine svG (fun hg=>?_) (fun hg=>?_)<;>try exact svx)|refine svh (fun hb=>?_) (fun hb=>?_)|refine svb (fun b=>?_)|fail))
        all_goals exact fin_r (h' := H) ⟨rfl, rfl⟩
      have vo := fun h => vof_c k up t Q h (by have := bel_len Q.w (up.length + 1); have := Q.ul; omega)
      have hol : (orF k up t).length ≤ 100 := by have := List.length_filter_le (fun id => (lkF (vwF k up t) id).isSome) (belF (ofS k) (up.length + 1) 1); have := bel_len Q.w (up.length + 1); have := Q.ul; unfold orF; omega
      obtain ⟨b0, hb0⟩ := Q.bt id hid
      have ob := Q.ok id b0 hb0
      have pb := fun h => pbox_c t id b0 h hb0
      rw [show encV k up t = encW (orF k up t) (vwF k up t) from rfl] at vo
      unfold encT encP encW at vo
      unfold encP at pb
      rw [show vBox b0 = .agg [.val (.int .i64 (b0.x)), .val (.int .i64 (b0.y)), .val (.int .i64 (b0.w)), .val (.int .i64 (b0.h)), .val (.bool (b0.m)), .val (.int .i64 (b0.g)), .val (.int .i64 (b0.g)), .val (.bool (b0.sh)), .ro 4 (b0.shape.map RC.enc)] from rfl] at pb
      (repeat' (first|refine svz ⟨fun b hq=>?_⟩|refine svA ⟨?_⟩|refine svu ⟨fun u=>?_⟩|(refine svG (fun hg=>?_) (fun hg=>?_)<;>try exact svx)|refine svh (fun hb=>?_) (fun hb=>?_)|refine svb (fun b=>?_)|fail))
      revert b; intro b12
      rw [q ()]
      clear q
      refine S.call ?_; refine (si _).mono ?_; rintro r h' ⟨rfl, hh⟩; subst hh
      (repeat' (first|refine svz ⟨fun b hq=>?_⟩|refine svA ⟨?_⟩|refine svu ⟨fun u=>?_⟩|(refine svG (fun hg=>?_) (fun hg=>?_)<;>try exact svx)|refine svh (fun hb=>?_) (fun hb=>?_)|refine svb (fun b=>?_)|fail))
      refine S.call ?_; refine (vo _).mono ?_; rintro r h' ⟨rfl, hh⟩; subst hh
      (repeat' (first|refine svz ⟨fun b hq=>?_⟩|refine svA ⟨?_⟩|refine svu ⟨fun u=>?_⟩|(refine svG (fun hg=>?_) (fun hg=>?_)<;>try exact svx)|refine svh (fun hb=>?_) (fun hb=>?_)|refine svb (fun b=>?_)|fail))
      revert b; intro b14
      refine Step.le (s' := ⟨276, [(14, .val (.pointer (some ⟨b14, 0, none⟩))), (57, .val (.int .i64 ((i : Nat)))), (13, .val (.int .u32 (id))), (12, .val (.pointer (some ⟨b12, 0, none⟩))), (56, .val (.int .i64 ((acts.length : Int)))), (55, .ro 15 (acts.map SA.enc)), (9, .val (.pointer (some ⟨b9, 0, none⟩))), (8, .val (.pointer (some ⟨b8, 0, none⟩))), (7, .val (.pointer (some ⟨b7, 0, none⟩))), (5, .val (.pointer (some ⟨b5, 0, none⟩))), (4, .val (.bool (false))), (0, .ro 9 (l.map WI.enc))], .box b14 [.ro 1 (ints .u32 (orF k up t)), mapV .u32 vSW (vwF k up t)] 43 :: .box b12 [.val (.int .u8 (a.dO)), .val (.int .u8 (a.at')), .val (.int .i8 (a.x)), .val (.int .i8 (a.y)), .val (.int .u8 (a.w)), .val (.int .u8 (a.h)), .val (.bool (a.mp)), .val (.int .i64 (a.sh.dx)), .val (.int .i64 (a.sh.dy)), .val (.bool (a.sh.fg)), .val (.int .i64 (a.r.x)), .val (.int .i64 (a.r.y)), .val (.int .i64 (a.r.w)), .val (.int .i64 (a.r.h)), .val (.int .u8 (a.ink))] 55 :: .box b9 [mapV .u32 vIt (c)] 34 :: .box b8 [mapV .u32 vBox (t)] 31 :: .box b7 [mapV .u32 vIds (k), mapV .u32 (vI .u32) up] 28 :: .box b5 [mapV .u32 vIds k0, mapV .u32 (vI .u32) up, mapV .u32 vBox t0, mapV .u32 vIt c0, .ro 9 (L.map RW.enc)] 37 :: H⟩) lee ?_
      refine S.mkm0 vSh (fun bm => ?_)
      (repeat' (first|refine svz ⟨fun b hq=>?_⟩|refine svA ⟨?_⟩|refine svu ⟨fun u=>?_⟩|(refine svG (fun hg=>?_) (fun hg=>?_)<;>try exact svx)|refine svh (fun hb=>?_) (fun hb=>?_)|refine svb (fun b=>?_)|fail))
      refine S.call ?_; refine (pb _).mono ?_; rintro r h' ⟨rfl, hh⟩; subst hh
      (repeat' (first | (refine iS ?_; refine iMu ?_; refine S.mapU ?_) | refine svz ⟨fun b hq=>?_⟩|refine svT ⟨?_⟩|refine svu ⟨fun u=>?_⟩|(refine svG (fun hg=>?_) (fun hg=>?_)<;>try exact svx)|refine svh (fun hb=>?_) (fun hb=>?_)|refine svb (fun b=>?_) | fail))
      revert b; intro b16
      clear si vo pb
      refine W.mid (J := fun z : SVT × PW × CN × List (Int × SHF) => ⟨276, [(15, .val (.map (some bm))), (14, .val (.pointer (some ⟨b14, 0, none⟩))), (57, .val (.int .i64 ((i : Nat)))), (56, .val (.int .i64 ((acts.length : Int)))), (55, .ro 15 (acts.map SA.enc)), (9, .val (.pointer (some ⟨b9, 0, none⟩))), (8, .val (.pointer (some ⟨b8, 0, none⟩))), (7, .val (.pointer (some ⟨b7, 0, none⟩))), (5, .val (.pointer (some ⟨b5, 0, none⟩))), (4, .val (.bool (false))), (0, .ro 9 (l.map WI.enc))], mpV bm .u32 vSh z.2.2.2 :: .box b14 [.ro 1 (ints .u32 (orF k up t)), mapV .u32 vSW (vwF k up t)] 43 :: .box b9 [mapV .u32 vIt (z.2.2.1)] 34 :: .box b8 [mapV .u32 vBox (z.2.1)] 31 :: .box b7 [mapV .u32 vIds (z.1), mapV .u32 (vI .u32) up] 28 :: .box b5 [mapV .u32 vIds k0, mapV .u32 (vI .u32) up, mapV .u32 vBox t0, mapV .u32 vIt c0, .ro 9 (L.map RW.enc)] 37 :: H⟩) (Φ := fun z => GM l.length w0 h0 up z.1 z.2.1 z.2.2.1 z.2.2.2) ?_ ?_
      · by_cases hd : a.dO % 4 = 0 ∨ id = 1
        · have dr := fun h => drawn_c k up t c Q C id a h hid ka.r ⟨hk.1, hk.2.1, hk.2.2.1⟩
          rw [pe] at dr
          unfold encT encP encC at dr
          have gd := fun it D hit => G.draw (id := id) (it := it) D kink hit
          clear Q C ov G ob
          (repeat' (first|refine svz ⟨fun b hq=>?_⟩|refine svA ⟨?_⟩|refine svu ⟨fun u=>?_⟩|(refine svG (fun hg=>?_) (fun hg=>?_)<;>try exact svx)|refine svh (fun hb=>?_) (fun hb=>?_)|refine svb (fun b=>?_)|fail))
          all_goals
            refine S.call ?_
            refine (dr _).mono ?_
            rintro r h' ⟨it, D, hit, rfl, hh⟩
            subst hh
            (repeat' (first|refine svz ⟨fun b hq=>?_⟩|refine svA ⟨?_⟩|refine svu ⟨fun u=>?_⟩|(refine svG (fun hg=>?_) (fun hg=>?_)<;>try exact svx)|refine svh (fun hb=>?_) (fun hb=>?_)|refine svb (fun b=>?_)|fail))
            exact ⟨(k, t, putF c id (drI it D a.ink), []), gd it D hit, lee⟩
        have hd1 : id ≠ 1 := fun e => hd (.inr e)
        have hd0 : a.dO % 4 ≠ 0 := fun e => hd (.inl e)
        clear hd
        by_cases hd3 : a.dO % 4 = 3
        · obtain ⟨p, hup⟩ : ∃ p, lkF up id = some p := by
            unfold hasT at hid
            cases e : lkF up id with
            | none => rw [e] at hid; simp [hd1] at hid
            | some p => exact ⟨p, rfl⟩
          have pc := fun h => parent_c k up id h
          rw [hup] at pc
          rw [show (some p : Option Int).getD 0 = p from rfl, show (some p : Option Int).isSome = true from rfl] at pc
          have hofl := Q.w.ofl p
          have hul := Q.ul
          have kc := fun h => kids_c k up p h (by omega)
          have pl := fun h => place_c k up Q.w id p h hup (by omega)
          have gt := G.top hup
          unfold encT at pc kc pl
          generalize topK k p id = k2 at *
          clear Q C ov G ob
          (repeat' (first|refine svz ⟨fun b hq=>?_⟩|refine svA ⟨?_⟩|refine svu ⟨fun u=>?_⟩|(refine svG (fun hg=>?_) (fun hg=>?_)<;>try exact svx)|refine svh (fun hb=>?_) (fun hb=>?_)|refine svb (fun b=>?_)|fail))
          refine S.call ?_; refine (pc _).mono ?_; rintro r h' ⟨rfl, hh⟩; subst hh
          (repeat' (first|refine svz ⟨fun b hq=>?_⟩|refine svA ⟨?_⟩|refine svu ⟨fun u=>?_⟩|(refine svG (fun hg=>?_) (fun hg=>?_)<;>try exact svx)|refine svh (fun hb=>?_) (fun hb=>?_)|refine svb (fun b=>?_)|fail))
          refine R2.C (kc _) ?_
          (repeat' (first|refine svz ⟨fun b hq=>?_⟩|refine svA ⟨?_⟩|refine svu ⟨fun u=>?_⟩|(refine svG (fun hg=>?_) (fun hg=>?_)<;>try exact svx)|refine svh (fun hb=>?_) (fun hb=>?_)|refine svb (fun b=>?_)|fail))
          refine R2.C (pl _) ?_
          (repeat' (first|refine svz ⟨fun b hq=>?_⟩|refine svA ⟨?_⟩|refine svu ⟨fun u=>?_⟩|(refine svG (fun hg=>?_) (fun hg=>?_)<;>try exact svx)|refine svh (fun hb=>?_) (fun hb=>?_)|refine svb (fun b=>?_)|fail))
          exact ⟨(k2, t, c, []), gt, lee⟩
        · have hnt := G.m.tne
          have htl := G.m.tl
          by_cases hd2 : a.dO % 4 = 1
          · have ps := fun h => pset_c t id ⟨a.x, a.y, b0.w, b0.h, a.mp, b0.g, b0.sh, b0.shape⟩ h hib.1 hib.2 hd1 hic ⟨kx, ky, ob.w, ob.h, ob.g, ob.sh, ob.ns⟩ hnt (by omega)
            have gb := G.box (b1 := ⟨a.x, a.y, b0.w, b0.h, a.mp, b0.g, b0.sh, b0.shape⟩) hd1 hb0 ⟨kx, ky, ob.w, ob.h, ob.g, ob.sh, ob.ns⟩ MvOk.nil
            rw [show vBox ⟨a.x, a.y, b0.w, b0.h, a.mp, b0.g, b0.sh, b0.shape⟩ = .agg [.val (.int .i64 (a.x)), .val (.int .i64 (a.y)), .val (.int .i64 (b0.w)), .val (.int .i64 (b0.h)), .val (.bool (a.mp)), .val (.int .i64 (b0.g)), .val (.int .i64 (b0.g)), .val (.bool (b0.sh)), .ro 4 (b0.shape.map RC.enc)] from rfl] at ps
            generalize putF t id ⟨a.x, a.y, b0.w, b0.h, a.mp, b0.g, b0.sh, b0.shape⟩ = t2 at *
            unfold encP at ps
            clear Q C ov G ob
            (repeat' ((fail_if_success (refine drg ?_)); (first|refine svz ⟨fun b hq=>?_⟩|refine svA ⟨?_⟩|refine svu ⟨fun u=>?_⟩|(refine svG (fun hg=>?_) (fun hg=>?_)<;>try exact svx)|refine svh (fun hb=>?_) (fun hb=>?_)|refine svb (fun b=>?_)|fail)))
            refine W.dr (.rw (.ro (.ro (.ro (.done _))))) ?_
            (repeat' (first|refine svz ⟨fun b hq=>?_⟩|refine svA ⟨?_⟩|refine svu ⟨fun u=>?_⟩|(refine svG (fun hg=>?_) (fun hg=>?_)<;>try exact svx)|refine svh (fun hb=>?_) (fun hb=>?_)|refine svb (fun b=>?_)|fail))
            refine S.call ?_; refine (ps _).mono ?_; rintro r h' ⟨rfl, hh⟩; subst hh
            (repeat' (first|refine svz ⟨fun b hq=>?_⟩|refine svA ⟨?_⟩|refine svu ⟨fun u=>?_⟩|(refine svG (fun hg=>?_) (fun hg=>?_)<;>try exact svx)|refine svh (fun hb=>?_) (fun hb=>?_)|refine svb (fun b=>?_)|fail))
            exact ⟨(k, t2, c, []), gb, lee⟩
          · have hd2' : a.dO % 4 = 2 := by omega
            have hsh : SHF.Ok a.sh := ⟨hk.2.2.2.1, hk.2.2.2.2⟩
            have ok1 : BW.Ok ⟨a.x, a.y, a.w % 16 + 1, a.h % 16 + 1, b0.m, b0.g, b0.sh, b0.shape⟩ := ⟨kx, ky, by dsimp only; omega, by dsimp only; omega, ob.g, ob.sh, ob.ns⟩
            have ps := fun h => pset_c t id ⟨a.x, a.y, a.w % 16 + 1, a.h % 16 + 1, b0.m, b0.g, b0.sh, b0.shape⟩ h hib.1 hib.2 hd1 hic ok1 hnt (by omega)
            have gb := G.box hd1 hb0 ok1 (MvOk.one hd1 hsh)
            rw [show vBox ⟨a.x, a.y, a.w % 16 + 1, a.h % 16 + 1, b0.m, b0.g, b0.sh, b0.shape⟩ = .agg [.val (.int .i64 (a.x)), .val (.int .i64 (a.y)), .val (.int .i64 (a.w % 16 + 1)), .val (.int .i64 (a.h % 16 + 1)), .val (.bool (b0.m)), .val (.int .i64 (b0.g)), .val (.int .i64 (b0.g)), .val (.bool (b0.sh)), .ro 4 (b0.shape.map RC.enc)] from rfl] at ps
            generalize putF t id ⟨a.x, a.y, a.w % 16 + 1, a.h % 16 + 1, b0.m, b0.g, b0.sh, b0.shape⟩ = t2 at *
            unfold encP at ps
            clear Q C ov G ob ok1
            have ke : putF ([] : List (Int × SHF)) id a.sh = [(id, a.sh)] := rfl
            (repeat' ((fail_if_success (refine drg ?_)); (first|refine svz ⟨fun b hq=>?_⟩|refine svA ⟨?_⟩|refine svu ⟨fun u=>?_⟩|(refine svG (fun hg=>?_) (fun hg=>?_)<;>try exact svx)|refine svh (fun hb=>?_) (fun hb=>?_)|refine svb (fun b=>?_)|fail)))
            refine W.dr (.rw (.ro (.ro (.ro (.done _))))) ?_
            (repeat' ((fail_if_success (refine drg ?_)); (first|refine svz ⟨fun b hq=>?_⟩|refine svA ⟨?_⟩|refine svu ⟨fun u=>?_⟩|(refine svG (fun hg=>?_) (fun hg=>?_)<;>try exact svx)|refine svh (fun hb=>?_) (fun hb=>?_)|refine svb (fun b=>?_)|fail)))
            refine W.dr (.ro (.ro (.ro (.done _)))) ?_
            (repeat' (first | refine svz ⟨fun b hq=>?_⟩|refine svT ⟨?_⟩|refine svu ⟨fun u=>?_⟩|(refine svG (fun hg=>?_) (fun hg=>?_)<;>try exact svx)|refine svh (fun hb=>?_) (fun hb=>?_)|refine svb (fun b=>?_) | refine sva ?_ | refine sv3 ?_ | fail))
            refine S.mapU (f := vSh) (m := []) (a := a.sh) ?_
            rw [ke]
            (repeat' (first|refine svz ⟨fun b hq=>?_⟩|refine svA ⟨?_⟩|refine svu ⟨fun u=>?_⟩|(refine svG (fun hg=>?_) (fun hg=>?_)<;>try exact svx)|refine svh (fun hb=>?_) (fun hb=>?_)|refine svb (fun b=>?_)|fail))
            refine S.call ?_; refine (ps _).mono ?_; rintro r h' ⟨rfl, hh⟩; subst hh
            (repeat' (first|refine svz ⟨fun b hq=>?_⟩|refine svA ⟨?_⟩|refine svu ⟨fun u=>?_⟩|(refine svG (fun hg=>?_) (fun hg=>?_)<;>try exact svx)|refine svh (fun hb=>?_) (fun hb=>?_)|refine svb (fun b=>?_)|fail))
            exact ⟨(k, t2, c, [(id, a.sh)]), gb, lee⟩
      · rintro ⟨k2, t2, c2, mv⟩ gm
        dsimp only at gm ⊢
        have Q2 := gm.Q
        have C2 := gm.C
        have ov2 := Q2.vok
        have vo2 := fun h => vof_c k2 up t2 Q2 h (by have := bel_len Q2.w (up.length + 1); have := Q2.ul; omega)
        have hol2 : (orF k2 up t2).length ≤ 100 := by have := List.length_filter_le (fun id => (lkF (vwF k2 up t2) id).isSome) (belF (ofS k2) (up.length + 1) 1); have := bel_len Q2.w (up.length + 1); have := Q2.ul; unfold orF; omega
        have ch2 := fun h => cchange_c c2 (orF k up t) (orF k2 up t2) (vwF k up t) (vwF k2 up t2) t2 mv h C2.cn C2.cl gm.iok ov ov2 (by omega)
        have gi := gm.step ov
        have hrt := gm.root
        generalize chC (vwF k up t) (vwF k2 up t2) t2 mv c2 = c3 at *
        have so := fun h => sound_c k2 up t2 c3 gi.m.Q gi.m.C gi.Z gi.G w0 h0 h hrt
        rw [show encV k2 up t2 = encW (orF k2 up t2) (vwF k2 up t2) from rfl] at vo2
        clear Q2 C2 ov2 hol2 hrt gm Q C ov G ob hb0 hol
        generalize vwF k2 up t2 = V2 at *
        generalize orF k2 up t2 = O2 at *
        generalize vwF k up t = V1 at *
        generalize orF k up t = O1 at *
        unfold encT encP encW at vo2
        unfold encC encP encW at ch2
        unfold encT encP encC at so
        refine W.frzm (b := bm) (by (fail_if_success (apply tkG)); (repeat (first | exact Tk.here | apply Tk.there)); first | done | fail) (by repeat' (first | apply FzT.cons | exact FzT.rest _ | exact Fz.hit | apply Fz.aggc | apply Fz.tupc | exact Fz.aggn | exact Fz.tupn | exact Fz.keep _)) (by repeat' (first | apply FzH.box | apply FzH.keep | exact FzH.rest _ | exact Fz.hit | apply Fz.aggc | apply Fz.tupc | exact Fz.aggn | exact Fz.tupn | exact Fz.keep _)) ?_
        (repeat' (first|refine svz ⟨fun b hq=>?_⟩|refine svA ⟨?_⟩|refine svu ⟨fun u=>?_⟩|(refine svG (fun hg=>?_) (fun hg=>?_)<;>try exact svx)|refine svh (fun hb=>?_) (fun hb=>?_)|refine svb (fun b=>?_)|fail))
        refine R2.C (vo2 _) ?_
        (repeat' (first|refine svz ⟨fun b hq=>?_⟩|refine svA ⟨?_⟩|refine svu ⟨fun u=>?_⟩|(refine svG (fun hg=>?_) (fun hg=>?_)<;>try exact svx)|refine svh (fun hb=>?_) (fun hb=>?_)|refine svb (fun b=>?_)|fail))
        refine R2.B ?_
        refine S.call ?_
        refine (ch2 _).mono ?_
        rintro r h' ⟨l2, rfl, hh⟩
        subst hh
        refine kd ?_
        (repeat' (first|refine svz ⟨fun b hq=>?_⟩|refine svA ⟨?_⟩|refine svu ⟨fun u=>?_⟩|(refine svG (fun hg=>?_) (fun hg=>?_)<;>try exact svx)|refine svh (fun hb=>?_) (fun hb=>?_)|refine svb (fun b=>?_)|fail))
        refine R2.C (so _) ?_
        (repeat' (first|refine svz ⟨fun b hq=>?_⟩|refine svA ⟨?_⟩|refine svu ⟨fun u=>?_⟩|(refine svG (fun hg=>?_) (fun hg=>?_)<;>try exact svx)|refine svh (fun hb=>?_) (fun hb=>?_)|refine svb (fun b=>?_)|fail))
        exact ⟨(i + 1, k2, t2, c3), ⟨hlt, gi⟩, lee, by dsimp only; omega⟩
    · have so := fun h => sound_c k up t c G.m.Q G.m.C G.Z G.G w0 h0 h G.m.root
      have vo := fun h => vof_c k up t Q h (by have := bel_len Q.w (up.length + 1); have := Q.ul; omega)
      have vi := fun h => visible_c (orF k up t) (vwF k up t) 1 h ov
      have vc := fun h => vclip_c (orF k up t) (vwF k up t) 1 h
      rw [vis_root Q] at vi
      have sm := fun h => same_c (clF (vwF k up t) 1) (clF (vwF k up t) 1) h
      rw [decide_eq_true rfl] at sm
      rw [show encV k up t = encW (orF k up t) (vwF k up t) from rfl] at vo
      clear Q C ov G
      unfold regE at vi vc sm
      generalize clF (vwF k up t) 1 = CL at *
      generalize vwF k up t = V1 at *
      generalize orF k up t = O1 at *
      unfold encT encP encW at vo
      unfold encW at vi vc
      unfold encT encP encC at so
      (repeat' (first|refine svz ⟨fun b hq=>?_⟩|refine svA ⟨?_⟩|refine svu ⟨fun u=>?_⟩|(refine svG (fun hg=>?_) (fun hg=>?_)<;>try exact svx)|refine svh (fun hb=>?_) (fun hb=>?_)|refine svb (fun b=>?_)|fail))
      refine R2.C (so _) ?_
      (repeat' (first|refine svz ⟨fun b hq=>?_⟩|refine svA ⟨?_⟩|refine svu ⟨fun u=>?_⟩|(refine svG (fun hg=>?_) (fun hg=>?_)<;>try exact svx)|refine svh (fun hb=>?_) (fun hb=>?_)|refine svb (fun b=>?_)|fail))
      refine R2.C (vo _) ?_
      (repeat' (first|refine svz ⟨fun b hq=>?_⟩|refine svA ⟨?_⟩|refine svu ⟨fun u=>?_⟩|(refine svG (fun hg=>?_) (fun hg=>?_)<;>try exact svx)|refine svh (fun hb=>?_) (fun hb=>?_)|refine svb (fun b=>?_)|fail))
      refine R2.C (vi _) ?_
      (repeat' (first|refine svz ⟨fun b hq=>?_⟩|refine svA ⟨?_⟩|refine svu ⟨fun u=>?_⟩|(refine svG (fun hg=>?_) (fun hg=>?_)<;>try exact svx)|refine svh (fun hb=>?_) (fun hb=>?_)|refine svb (fun b=>?_)|fail))
      refine R2.C (vo _) ?_
      (repeat' (first|refine svz ⟨fun b hq=>?_⟩|refine svA ⟨?_⟩|refine svu ⟨fun u=>?_⟩|(refine svG (fun hg=>?_) (fun hg=>?_)<;>try exact svx)|refine svh (fun hb=>?_) (fun hb=>?_)|refine svb (fun b=>?_)|fail))
      refine R2.C (vc _) ?_
      (repeat' (first|refine svz ⟨fun b hq=>?_⟩|refine svA ⟨?_⟩|refine svu ⟨fun u=>?_⟩|(refine svG (fun hg=>?_) (fun hg=>?_)<;>try exact svx)|refine svh (fun hb=>?_) (fun hb=>?_)|refine svb (fun b=>?_)|fail))
      refine R2.C (sm _) ?_
      (repeat' (first|refine svz ⟨fun b hq=>?_⟩|refine svA ⟨?_⟩|refine svu ⟨fun u=>?_⟩|(refine svG (fun hg=>?_) (fun hg=>?_)<;>try exact svx)|refine svh (fun hb=>?_) (fun hb=>?_)|refine svb (fun b=>?_)|fail))
      exact fin_r (h' := H) ⟨rfl, rfl⟩
end Go.Proofs.YtfbegifmhgkpjaaGreat
