/- TopShows: its own functions. No condition. -/
import Derived.Test.YtfbegifmhgkpjaaGreatZ19
import Derived.Test.YtfbegifmhgkpjaaGreatZ17
namespace Go.Proofs.YtfbegifmhgkpjaaGreat
open Go Go.VM
attribute [local irreducible] PurV Pur Step RL W D ACalls Then InBlock Fini
set_option linter.unusedVariables false
set_option linter.unusedSimpArgs false
set_option maxHeartbeats 20000000
set_option maxRecDepth 100000 in
theorem sid_c (n : Nat) (h : Heap) (hn : n ≤ 1000) : ACalls Tryz.prog 8 [.val (.int .i64 ((n : Int)))] h (fun r h' => r = .val (.int .u32 (idT n)) ∧ h' = h) := by
  unfold idT
  by_cases h0 : n = 0
  · subst h0
    refine ACalls.intro Tryz.func8 rfl Tryz.ntmps8 Tryz.results8 (Nat.le_of_ble_eq_true rfl) ?_
    (repeat' (first|refine svz ⟨fun b hq=>?_⟩|refine svA ⟨?_⟩|refine svu ⟨fun u=>?_⟩|(refine svG (fun hg=>?_) (fun hg=>?_)<;>try exact svx)|refine svh (fun hb=>?_) (fun hb=>?_)|refine svb (fun b=>?_)|fail))
    exact fin_r (h' := h) ⟨rfl, rfl⟩
  · rw [if_neg h0]
    refine ACalls.intro Tryz.func8 rfl Tryz.ntmps8 Tryz.results8 (Nat.le_of_ble_eq_true rfl) ?_
    (repeat' (first|refine svz ⟨fun b hq=>?_⟩|refine svA ⟨?_⟩|refine svu ⟨fun u=>?_⟩|(refine svG (fun hg=>?_) (fun hg=>?_)<;>try exact svx)|refine svh (fun hb=>?_) (fun hb=>?_)|refine svb (fun b=>?_)|fail))
    exact fin_r (h' := h) ⟨rfl, rfl⟩
structure SA where
  (dO at' x y w h : Int) (mp : Bool) (sh : SHF) (r : RC) (ink : Int)
def SA.enc (a : SA) : AV := .agg [.val (.int .u8 (a.dO)), .val (.int .u8 (a.at')), .val (.int .i8 (a.x)), .val (.int .i8 (a.y)), .val (.int .u8 (a.w)), .val (.int .u8 (a.h)), .val (.bool (a.mp)), .val (.int .i64 (a.sh.dx)), .val (.int .i64 (a.sh.dy)), .val (.bool (a.sh.fg)), .val (.int .i64 (a.r.x)), .val (.int .i64 (a.r.y)), .val (.int .i64 (a.r.w)), .val (.int .i64 (a.r.h)), .val (.int .u8 (a.ink))]
theorem Zx.jok2 {n m : Nat} {A B : List RC} (ha : Zx n A) (hb : Zx m B) (hn : n ≤ 130) (hm : m ≤ 400) : JOk A B := by
  have l1 := ha.len (by omega)
  have l2 := hb.len (by omega)
  have h3 : n * n ≤ 130 * 130 := Nat.mul_le_mul hn hn
  have h4 : m * m ≤ 400 * 400 := Nat.mul_le_mul hm hm
  obtain ⟨ca, a, c, qa⟩ := ha
  obtain ⟨cb, a', c', qb⟩ := hb
  refine ⟨ca, cb, by omega, by omega, ?_, fun y => ?_⟩
  · have := up_len3 (a := c) (b := c + n) (c := c') (d := c' + m) (up_ysJ A B) (fun y hy => by
      obtain ⟨r, hr, e⟩ := mem_ysJ.1 hy
      rcases List.mem_append.1 hr with hr | hr
      · have := qa r hr; obtain ⟨_, _, q, _⟩ := ca.cnt r hr; omega
      · have := qb r hr; obtain ⟨_, _, q, _⟩ := cb.cnt r hr; omega) (by omega) (by omega)
    omega
  · have := up_len3 (a := a) (b := a + n) (c := a') (d := a' + m) (up_xsJ A B y) (fun x hx => by
      obtain ⟨r, hr, _, e⟩ := mem_xsJ.1 hx
      rcases List.mem_append.1 hr with hr | hr
      · have := qa r hr; obtain ⟨⟨_, q, _⟩, _⟩ := ca.cnt r hr; omega
      · have := qb r hr; obtain ⟨⟨_, q, _⟩, _⟩ := cb.cnt r hr; omega) (by omega) (by omega)
    omega
def drI (it : IT) (D : List RC) (p : Int) : IT := { it with g := it.g.mix (hasR D) fun _ _ => p }
set_option maxRecDepth 100000 in
theorem drawn_c (k : SVT) (up : UP) (t : PW) (c : CN) (Q : PWOk k up t) (C : CI up c) (id : Int) (a : SA) (h : Heap) (hid : hasT up id = true) (hr : a.r.ok) (hb : (-100 ≤ a.r.x ∧ a.r.x ≤ 100) ∧ (-100 ≤ a.r.y ∧ a.r.y ≤ 100) ∧ a.r.w ≤ 100 ∧ a.r.h ≤ 100) :
    ACalls Tryz.prog 10 [encT k up, encP t, encC c, .val (.int .u32 (id)), a.enc] h (fun r h' => ∃ (it : IT) (D : List RC), lkF c id = some it ∧ r = .tup [encC (putF c id (drI it D a.ink)), .val (.bool (true))] ∧ h' = h) := by
  obtain ⟨it, hit⟩ := C.ch id hid
  obtain ⟨_, hgo, hgd, hwin, hbk⟩ := C.ci id it hit
  obtain ⟨b0, hb0⟩ := Q.bt id hid
  have ob := Q.ok id b0 hb0
  have ov := Q.vok
  have vo := fun h => vof_c k up t Q h (by have := bel_len Q.w (up.length + 1); have := Q.ul; omega)
  have cg := fun h => cgrid_c c id it h hit
  have hR : Bx 100 300 (ofF [a.r]) := .of fun r hr hc => by
    rw [List.mem_singleton.1 hr] at hc ⊢
    omega
  rw [show encV k up t = .agg [.ro 1 (ints .u32 (orF k up t)), mapV .u32 vSW (vwF k up t)] from rfl] at vo
  obtain ⟨A, zA, cc⟩ : ∃ A, Zx 16 A ∧ ∀ h, ACalls Tryz.prog 42 [encC c, encW (orF k up t) (vwF k up t), encP t, .val (.int .u32 (id))] h (fun r h' => r = .tup [regE A, .val (.bool (true))] ∧ h' = h) := by
    cases e : it.bk with
    | true => exact ⟨_, ob.area.zx, fun h => cclipB_c c _ _ t id it b0 h hit hwin e hb0 ob⟩
    | false => exact ⟨_, Zx.vis ov id, fun h => cclipN_c c _ _ t id it h hit hwin e ov⟩
  have wi := fun h => within_c A a.r h hr (zA.jok2 hR.zx (by omega) (by omega))
  have hz : Zx 16 (joinJ (fun p q => p && q) A (ofF [a.r])) := zA.left (fun _ => rfl) (can_of _)
  have fi := fun h => gfill_c it.g (joinJ (fun p q => p && q) A (ofF [a.r])) a.ink h hgo hz.can (by have := hz.len (by omega); omega)
  have ly := fun h => clay_c c id it (it.g.mix (hasR (joinJ (fun p q => p && q) A (ofF [a.r]))) fun _ _ => a.ink) h hit rfl rfl C.cn (by have := C.cl; omega)
  rw [show ({ it with g := it.g.mix (hasR (joinJ (fun p q => p && q) A (ofF [a.r]))) fun _ _ => a.ink } : IT) = drI it (joinJ (fun p q => p && q) A (ofF [a.r])) a.ink from rfl] at ly
  generalize joinJ (fun p q => p && q) A (ofF [a.r]) = D at *
  generalize (it.g.mix (hasR D) fun _ _ => a.ink) = g2 at *
  rw [show a.r.enc = .agg [.val (.int .i64 (a.r.x)), .val (.int .i64 (a.r.y)), .val (.int .i64 (a.r.w)), .val (.int .i64 (a.r.h))] from rfl] at wi
  have hfin : ∃ (c2 : CN), putF c id (drI it D a.ink) = c2 := ⟨_, rfl⟩
  obtain ⟨c2, hc2⟩ := hfin
  rw [hc2] at ly
  unfold encT encP encC encW encG regE at *
  rw [show a.enc = .agg [.val (.int .u8 (a.dO)), .val (.int .u8 (a.at')), .val (.int .i8 (a.x)), .val (.int .i8 (a.y)), .val (.int .u8 (a.w)), .val (.int .u8 (a.h)), .val (.bool (a.mp)), .val (.int .i64 (a.sh.dx)), .val (.int .i64 (a.sh.dy)), .val (.bool (a.sh.fg)), .val (.int .i64 (a.r.x)), .val (.int .i64 (a.r.y)), .val (.int .i64 (a.r.w)), .val (.int .i64 (a.r.h)), .val (.int .u8 (a.ink))] from rfl]
  clear hz zA hR ov ob Q C
  refine ACalls.intro Tryz.func10 rfl Tryz.ntmps10 Tryz.results10 (Nat.le_of_ble_eq_true rfl) ?_
  (repeat' (first|refine svz ⟨fun b hq=>?_⟩|refine svA ⟨?_⟩|refine svu ⟨fun u=>?_⟩|(refine svG (fun hg=>?_) (fun hg=>?_)<;>try exact svx)|refine svh (fun hb=>?_) (fun hb=>?_)|refine svb (fun b=>?_)|fail))
  refine R2.C (vo _) ?_
  (repeat' (first|refine svz ⟨fun b hq=>?_⟩|refine svA ⟨?_⟩|refine svu ⟨fun u=>?_⟩|(refine svG (fun hg=>?_) (fun hg=>?_)<;>try exact svx)|refine svh (fun hb=>?_) (fun hb=>?_)|refine svb (fun b=>?_)|fail))
  refine R2.C (cc _) ?_
  (repeat' (first|refine svz ⟨fun b hq=>?_⟩|refine svA ⟨?_⟩|refine svu ⟨fun u=>?_⟩|(refine svG (fun hg=>?_) (fun hg=>?_)<;>try exact svx)|refine svh (fun hb=>?_) (fun hb=>?_)|refine svb (fun b=>?_)|fail))
  refine S.call ?_; refine (cg _).mono ?_; rintro r h' ⟨rfl, hh⟩; subst hh
  (repeat' (first|refine svz ⟨fun b hq=>?_⟩|refine svA ⟨?_⟩|refine svu ⟨fun u=>?_⟩|(refine svG (fun hg=>?_) (fun hg=>?_)<;>try exact svx)|refine svh (fun hb=>?_) (fun hb=>?_)|refine svb (fun b=>?_)|fail))
  refine R2.C (wi _) ?_
  (repeat' (first|refine svz ⟨fun b hq=>?_⟩|refine svA ⟨?_⟩|refine svu ⟨fun u=>?_⟩|(refine svG (fun hg=>?_) (fun hg=>?_)<;>try exact svx)|refine svh (fun hb=>?_) (fun hb=>?_)|refine svb (fun b=>?_)|fail))
  refine R2.C (fi _) ?_
  (repeat' (first|refine svz ⟨fun b hq=>?_⟩|refine svA ⟨?_⟩|refine svu ⟨fun u=>?_⟩|(refine svG (fun hg=>?_) (fun hg=>?_)<;>try exact svx)|refine svh (fun hb=>?_) (fun hb=>?_)|refine svb (fun b=>?_)|fail))
  refine R2.C (ly _) ?_
  (repeat' (first|refine svz ⟨fun b hq=>?_⟩|refine svA ⟨?_⟩|refine svu ⟨fun u=>?_⟩|(refine svG (fun hg=>?_) (fun hg=>?_)<;>try exact svx)|refine svh (fun hb=>?_) (fun hb=>?_)|refine svb (fun b=>?_)|fail))
  refine fin_r (h' := h) ⟨it, D, hit, ?_, rfl⟩
  rw [hc2]
  simp [tupA, AV.cells]
set_option maxRecDepth 100000 in
theorem sound_c (k : SVT) (up : UP) (t : PW) (c : CN) (Q : PWOk k up t) (C : CI up c) (Z : CSz t c) (G : CGr (vwF k up t) c) (w h : Nat) (H : Heap) (hr : lkF t 1 = some (rootB w h)) :
    ACalls Tryz.prog 15 [encT k up, encP t, encC c, .val (.int .i64 ((w : Int))), .val (.int .i64 ((h : Int)))] H (fun r h' => r = .val (.bool (true)) ∧ h' = H) := by
  have ok1 := Q.ok 1 _ hr
  have kw := ok1.w; have kh := ok1.h
  unfold rootB at kw kh
  dsimp only at kw kh
  have ov := Q.vok
  have hul := Q.ul
  have hbl := bel_len Q.w (up.length + 1)
  have vo := fun h => vof_c k up t Q h (by omega)
  have hol : (orF k up t).length ≤ 100 := by have := List.length_filter_le (fun id => (lkF (vwF k up t) id).isSome) (belF (ofS k) (up.length + 1) 1); unfold orF; omega
  have sh := fun h' => show_c (orF k up t) (vwF k up t) c w h h' (by omega) (by omega) ov (by omega) (fun id hid => (or_mem hid).1) (fun id hid => by
    obtain ⟨it, h1, h2, _⟩ := C.itG (bel_has Q.w _ _ _ Q.has1 (or_mem hid).2)
    exact ⟨it, h1, h2⟩)
  have bel := fun h => below_c k up (rkF up) (fun p c hc => Q.w.rank hc) (fun p => by have := Q.w.ofl p; omega) (up.length + 1) 1 h Q.has1 (by unfold rkF; omega) (by omega)
  have lk := fun (x y : Nat) (hx : x < w) (hy : y < h) h' => look_c k up t c Q x y h' (by omega) (by omega) (Q.onP hr (x := x) (y := y) (by omega) (by omega)).1 (fun id hid => by
    obtain ⟨it, h1, h2, _⟩ := C.itG hid
    exact ⟨it, h1, h2⟩)
  have ssw : (shwF (vwF k up t) c (orF k up t) w h).Ok := fold_ok _ _ (gr_new_ok (by omega) (by omega) (by omega)) (fun id hid => by
    obtain ⟨it, _, h2, h3⟩ := C.itG (bel_has Q.w _ _ _ Q.has1 (or_mem hid).2)
    rw [h3]; exact h2)
  have ga := fun (x y : Nat) (hx : x < w) (hy : y < h) h' => gat_c (shwF (vwF k up t) c (orF k up t) w h) x y h' ssw
  have heq := fun (x y : Nat) (hx : x < w) (hy : y < h) => shw_at Q C Z hr hx hy
  have key : ∀ id ∈ belF (ofS k) (up.length + 1) 1, ∃ it, lkF c id = some it ∧ it.g.Ok ∧ it.win = true ∧ (it.bk = false → ∀ x y, it.g.has x y → hasR (visF (vwF k up t) id) x y = false → it.g.at' x y = it.gd) := fun id hid => by
    obtain ⟨it, h1⟩ := C.ch id (bel_has Q.w _ _ _ Q.has1 hid)
    obtain ⟨_, h2, _, h4, _⟩ := C.ci id it h1
    exact ⟨it, h1, h2, h4, G id it h1⟩
  rw [show encV k up t = .agg [.ro 1 (ints .u32 (orF k up t)), mapV .u32 vSW (vwF k up t)] from rfl] at vo
  have hmul : w * h ≤ 16 * 16 := Nat.mul_le_mul (by omega) (by omega)
  have hme : (w : Int) * (h : Int) = ((w * h : Nat) : Int) := by push_cast; rfl
  have hmb : 0 ≤ (w : Int) * (h : Int) ∧ (w : Int) * (h : Int) ≤ 256 := by rw [hme]; omega
  clear Z G ok1 hr
  generalize belF (ofS k) (up.length + 1) 1 = BL at *
  generalize shwF (vwF k up t) c (orF k up t) w h = SG at *
  have vi := fun id h => visible_c (orF k up t) (vwF k up t) id h ov
  have vz := fun id => Zx.vis ov id
  have bh := fun id x y h => bhas_c (visF (vwF k up t) id) x y h (by have := (vz id).len (by omega); omega) (vz id).can.cnt (vz id).can.y
  have cgf := fun id it h e => cgrid_c c id it h e
  have cnf := fun id it h e hw => cground_c c id it h e hw
  unfold encT encP encC encW encG regE at *
  refine ACalls.intro Tryz.func15 rfl Tryz.ntmps15 Tryz.results15 (Nat.le_of_ble_eq_true rfl) ?_
  (repeat' (first|refine svz ⟨fun b hq=>?_⟩|refine svA ⟨?_⟩|refine svu ⟨fun u=>?_⟩|(refine svG (fun hg=>?_) (fun hg=>?_)<;>try exact svx)|refine svh (fun hb=>?_) (fun hb=>?_)|refine svb (fun b=>?_)|fail))
  rename_i b5 b6
  revert b; intro b7
  refine S.call ?_; refine (vo _).mono ?_; rintro r h' ⟨rfl, hh⟩; subst hh
  (repeat' (first|refine svz ⟨fun b hq=>?_⟩|refine svA ⟨?_⟩|refine svu ⟨fun u=>?_⟩|(refine svG (fun hg=>?_) (fun hg=>?_)<;>try exact svx)|refine svh (fun hb=>?_) (fun hb=>?_)|refine svb (fun b=>?_)|fail))
  revert b; intro b11
  refine S.call ?_; refine (sh _).mono ?_; rintro r h' ⟨rfl, hh⟩; subst hh
  (repeat' (first|refine svz ⟨fun b hq=>?_⟩|refine svA ⟨?_⟩|refine svu ⟨fun u=>?_⟩|(refine svG (fun hg=>?_) (fun hg=>?_)<;>try exact svx)|refine svh (fun hb=>?_) (fun hb=>?_)|refine svb (fun b=>?_)|fail))
  revert b; intro b12
  rw [hme]
  refine W.loop (J := fun i : Nat => ⟨136, [(43, .val (.int .i64 ((i : Nat)))), (42, .val (.int .i64 ((w * h : Nat)))), (3, .val (.int .i64 ((w : Int)))), (12, .val (.pointer (some ⟨b12, 0, none⟩))), (11, .val (.pointer (some ⟨b11, 0, none⟩))), (10, .val (.bool (false))), (7, .val (.pointer (some ⟨b7, 0, none⟩))), (6, .val (.pointer (some ⟨b6, 0, none⟩))), (5, .val (.pointer (some ⟨b5, 0, none⟩)))], .box b12 [.val (.int .i64 ((SG.w : Int))), .val (.int .i64 ((SG.h : Int))), .ro 1 (ints .u8 SG.pix)] 88 :: .box b11 [.ro 1 (ints .u32 (orF k up t)), mapV .u32 vSW (vwF k up t)] 43 :: .box b7 [mapV .u32 vIt c] 34 :: .box b6 [mapV .u32 vBox t] 31 :: .box b5 [mapV .u32 vIds k, mapV .u32 (vI .u32) up] 28 :: H⟩)
    (Φ := fun i => i ≤ w * h) (μ := fun i => w * h - i) 0 lee (Nat.zero_le _) ?_
  rintro i hi
  rcases Nat.lt_or_ge i (w * h) with hlt | hge
  · have b1 : i % w < w := Nat.mod_lt i (by omega)
    have b2 : i / w < h := Nat.div_lt_of_lt_mul hlt
    have l1 := lk (i % w) (i / w) b1 b2
    have g1 := ga (i % w) (i / w) b1 b2
    rw [heq (i % w) (i / w) b1 b2] at g1
    have q1 : Unit → (i : Int) % (w : Int) = ((i % w : Nat) : Int) := fun _ => (Int.natCast_emod i w).symm
    have q2 : Unit → (i : Int) / (w : Int) = ((i / w : Nat) : Int) := fun _ => (Int.natCast_ediv i w).symm
    clear lk ga heq key hme hmb
    generalize i % w = m1 at *
    generalize i / w = m2 at *
    generalize (itG c (lookF k up t m1 m2)).at' ((m1 : Int) - oX up t (lookF k up t m1 m2)) ((m2 : Int) - oY up t (lookF k up t m1 m2)) = px at *
    generalize lookF k up t m1 m2 = T at *
    (repeat' (first|refine svz ⟨fun b hq=>?_⟩|refine svA ⟨?_⟩|refine svu ⟨fun u=>?_⟩|(refine svG (fun hg=>?_) (fun hg=>?_)<;>try exact svx)|refine svh (fun hb=>?_) (fun hb=>?_)|refine svb (fun b=>?_)|fail))
    rw [q1 (), q2 ()]
    refine R2.C (l1 _) ?_
    (repeat' (first|refine svz ⟨fun b hq=>?_⟩|refine svA ⟨?_⟩|refine svu ⟨fun u=>?_⟩|(refine svG (fun hg=>?_) (fun hg=>?_)<;>try exact svx)|refine svh (fun hb=>?_) (fun hb=>?_)|refine svb (fun b=>?_)|fail))
    rw [q1 (), q2 ()]
    refine R2.C (g1 _) ?_
    (repeat' (first|refine svz ⟨fun b hq=>?_⟩|refine svA ⟨?_⟩|refine svu ⟨fun u=>?_⟩|(refine svG (fun hg=>?_) (fun hg=>?_)<;>try exact svx)|refine svh (fun hb=>?_) (fun hb=>?_)|refine svb (fun b=>?_)|fail))
    exact ⟨i + 1, hlt, lee, by omega⟩
  clear lk ga heq hme hmb
  (repeat' (first|refine svz ⟨fun b hq=>?_⟩|refine svA ⟨?_⟩|refine svu ⟨fun u=>?_⟩|(refine svG (fun hg=>?_) (fun hg=>?_)<;>try exact svx)|refine svh (fun hb=>?_) (fun hb=>?_)|refine svb (fun b=>?_)|fail))
  refine S.call ?_; refine (bel _).mono ?_; rintro r h' ⟨rfl, hh⟩; subst hh
  (repeat' (first|refine svz ⟨fun b hq=>?_⟩|refine svA ⟨?_⟩|refine svu ⟨fun u=>?_⟩|(refine svG (fun hg=>?_) (fun hg=>?_)<;>try exact svx)|refine svh (fun hb=>?_) (fun hb=>?_)|refine svb (fun b=>?_)|fail))
  refine W.loop (J := fun i : Nat => ⟨136, [(73, .val (.int .i64 ((i : Nat)))), (72, .val (.int .i64 ((BL.length : Nat)))), (71, .ro 1 (ints .u32 (BL))), (12, .val (.pointer (some ⟨b12, 0, none⟩))), (11, .val (.pointer (some ⟨b11, 0, none⟩))), (10, .val (.bool (false))), (7, .val (.pointer (some ⟨b7, 0, none⟩))), (6, .val (.pointer (some ⟨b6, 0, none⟩))), (5, .val (.pointer (some ⟨b5, 0, none⟩)))], .box b12 [.val (.int .i64 ((SG.w : Int))), .val (.int .i64 ((SG.h : Int))), .ro 1 (ints .u8 SG.pix)] 88 :: .box b11 [.ro 1 (ints .u32 (orF k up t)), mapV .u32 vSW (vwF k up t)] 43 :: .box b7 [mapV .u32 vIt c] 34 :: .box b6 [mapV .u32 vBox t] 31 :: .box b5 [mapV .u32 vIds k, mapV .u32 (vI .u32) up] 28 :: H⟩)
    (Φ := fun i => i ≤ BL.length) (μ := fun i => BL.length - i) 0 lee (Nat.zero_le _) ?_
  rintro j hj
  rcases Nat.lt_or_ge j BL.length with hjl | hjg
  · obtain ⟨a, ha⟩ : ∃ a, BL[j]? = some a := ⟨_, List.getElem?_eq_getElem hjl⟩
    obtain ⟨it, h1, h2, h3, h4⟩ := key a (List.mem_of_getElem? ha)
    have cg := fun h => cgf a it h h1
    have cn := fun h => cnf a it h h1 h3
    have gs := gsize_c it.g
    have gat := fun x y h => gat_c it.g x y h h2
    have v1 := vi a
    have b1 := bh a
    have iw := h2.w; have ih := h2.h
    have imul : it.g.w * it.g.h ≤ 128 * 128 := Nat.mul_le_mul iw.2 ih.2
    have ime : (it.g.w : Int) * (it.g.h : Int) = ((it.g.w * it.g.h : Nat) : Int) := by push_cast; rfl
    have imb : 0 ≤ (it.g.w : Int) * (it.g.h : Int) ∧ (it.g.w : Int) * (it.g.h : Int) ≤ 16384 := by rw [ime]; omega
    clear key vi bh cgf cnf bel sh vo C
    unfold encG at cg gs gat
    (repeat' (first|refine svz ⟨fun b hq=>?_⟩|refine svA ⟨?_⟩|refine svu ⟨fun u=>?_⟩|(refine svG (fun hg=>?_) (fun hg=>?_)<;>try exact svx)|refine svh (fun hb=>?_) (fun hb=>?_)|refine svb (fun b=>?_)|fail))
    refine S.call ?_; refine (cg _).mono ?_; rintro r h' ⟨rfl, hh⟩; subst hh
    (repeat' (first|refine svz ⟨fun b hq=>?_⟩|refine svA ⟨?_⟩|refine svu ⟨fun u=>?_⟩|(refine svG (fun hg=>?_) (fun hg=>?_)<;>try exact svx)|refine svh (fun hb=>?_) (fun hb=>?_)|refine svb (fun b=>?_)|fail))
    revert b; intro b19
    refine S.call ?_; refine (cn _).mono ?_; rintro r h' ⟨rfl, hh⟩; subst hh
    (repeat' (first|refine svz ⟨fun b hq=>?_⟩|refine svA ⟨?_⟩|refine svu ⟨fun u=>?_⟩|(refine svG (fun hg=>?_) (fun hg=>?_)<;>try exact svx)|refine svh (fun hb=>?_) (fun hb=>?_)|refine svb (fun b=>?_)|fail))
    refine S.call ?_; refine (gs _).mono ?_; rintro r h' ⟨rfl, hh⟩; subst hh
    (repeat' (first|refine svz ⟨fun b hq=>?_⟩|refine svA ⟨?_⟩|refine svu ⟨fun u=>?_⟩|(refine svG (fun hg=>?_) (fun hg=>?_)<;>try exact svx)|refine svh (fun hb=>?_) (fun hb=>?_)|refine svb (fun b=>?_)|fail))
    rw [ime]
    refine W.loop (J := fun i : Nat => ⟨136, [(104, .val (.int .i64 ((i : Nat)))), (103, .val (.int .i64 ((it.g.w * it.g.h : Nat)))), (24, .val (.int .i64 ((it.g.w : Int)))), (22, .val (.bool (it.bk))), (21, .val (.int .u8 (it.gd))), (19, .val (.pointer (some ⟨b19, 0, none⟩))), (18, .val (.int .u32 (a))), (73, .val (.int .i64 ((j : Nat)))), (72, .val (.int .i64 ((BL.length : Nat)))), (71, .ro 1 (ints .u32 (BL))), (12, .val (.pointer (some ⟨b12, 0, none⟩))), (11, .val (.pointer (some ⟨b11, 0, none⟩))), (10, .val (.bool (false))), (7, .val (.pointer (some ⟨b7, 0, none⟩))), (6, .val (.pointer (some ⟨b6, 0, none⟩))), (5, .val (.pointer (some ⟨b5, 0, none⟩)))], .box b19 [.val (.int .i64 ((it.g.w : Int))), .val (.int .i64 ((it.g.h : Int))), .ro 1 (ints .u8 it.g.pix)] 88 :: .box b12 [.val (.int .i64 ((SG.w : Int))), .val (.int .i64 ((SG.h : Int))), .ro 1 (ints .u8 SG.pix)] 88 :: .box b11 [.ro 1 (ints .u32 (orF k up t)), mapV .u32 vSW (vwF k up t)] 43 :: .box b7 [mapV .u32 vIt c] 34 :: .box b6 [mapV .u32 vBox t] 31 :: .box b5 [mapV .u32 vIds k, mapV .u32 (vI .u32) up] 28 :: H⟩)
      (Φ := fun i => i ≤ it.g.w * it.g.h) (μ := fun i => it.g.w * it.g.h - i) 0 lee (Nat.zero_le _) ?_
    rintro i hi
    rcases Nat.lt_or_ge i (it.g.w * it.g.h) with hlt | hge
    · have c1 : i % it.g.w < it.g.w := Nat.mod_lt i (by omega)
      have c2 : i / it.g.w < it.g.h := Nat.div_lt_of_lt_mul hlt
      have b2 := b1 ((i % it.g.w : Nat) : Int) ((i / it.g.w : Nat) : Int)
      have g2 := gat ((i % it.g.w : Nat) : Int) ((i / it.g.w : Nat) : Int)
      have q1 : Unit → (i : Int) % (it.g.w : Int) = ((i % it.g.w : Nat) : Int) := fun _ => (Int.natCast_emod i it.g.w).symm
      have q2 : Unit → (i : Int) / (it.g.w : Int) = ((i / it.g.w : Nat) : Int) := fun _ => (Int.natCast_ediv i it.g.w).symm
      clear b1 gat ime imb
      generalize i % it.g.w = m1 at *
      generalize i / it.g.w = m2 at *
      have hhas : it.g.has (m1 : Int) (m2 : Int) := by unfold GR.has; omega
      have h5 := fun e hv => h4 e (m1 : Int) (m2 : Int) hhas hv
      clear hhas h4
      generalize hasR (visF (vwF k up t) a) (m1 : Int) (m2 : Int) = hv at *
      generalize it.g.at' (m1 : Int) (m2 : Int) = px at *
      cases hbk : it.bk with
      | true =>
        (repeat' (first|refine svz ⟨fun b hq=>?_⟩|refine svA ⟨?_⟩|refine svu ⟨fun u=>?_⟩|(refine svG (fun hg=>?_) (fun hg=>?_)<;>try exact svx)|refine svh (fun hb=>?_) (fun hb=>?_)|refine svb (fun b=>?_)|fail))
        exact ⟨i + 1, hlt, lee, by omega⟩
      | false =>
        cases hv with
        | true =>
          (repeat' (first|refine svz ⟨fun b hq=>?_⟩|refine svA ⟨?_⟩|refine svu ⟨fun u=>?_⟩|(refine svG (fun hg=>?_) (fun hg=>?_)<;>try exact svx)|refine svh (fun hb=>?_) (fun hb=>?_)|refine svb (fun b=>?_)|fail))
          refine R2.C (v1 _) ?_
          (repeat' (first|refine svz ⟨fun b hq=>?_⟩|refine svA ⟨?_⟩|refine svu ⟨fun u=>?_⟩|(refine svG (fun hg=>?_) (fun hg=>?_)<;>try exact svx)|refine svh (fun hb=>?_) (fun hb=>?_)|refine svb (fun b=>?_)|fail))
          rw [q1 (), q2 ()]
          refine R2.C (b2 _) ?_
          (repeat' (first|refine svz ⟨fun b hq=>?_⟩|refine svA ⟨?_⟩|refine svu ⟨fun u=>?_⟩|(refine svG (fun hg=>?_) (fun hg=>?_)<;>try exact svx)|refine svh (fun hb=>?_) (fun hb=>?_)|refine svb (fun b=>?_)|fail))
          exact ⟨i + 1, hlt, lee, by omega⟩
        | false =>
          rw [h5 hbk rfl] at g2
          (repeat' (first|refine svz ⟨fun b hq=>?_⟩|refine svA ⟨?_⟩|refine svu ⟨fun u=>?_⟩|(refine svG (fun hg=>?_) (fun hg=>?_)<;>try exact svx)|refine svh (fun hb=>?_) (fun hb=>?_)|refine svb (fun b=>?_)|fail))
          refine R2.C (v1 _) ?_
          (repeat' (first|refine svz ⟨fun b hq=>?_⟩|refine svA ⟨?_⟩|refine svu ⟨fun u=>?_⟩|(refine svG (fun hg=>?_) (fun hg=>?_)<;>try exact svx)|refine svh (fun hb=>?_) (fun hb=>?_)|refine svb (fun b=>?_)|fail))
          rw [q1 (), q2 ()]
          refine R2.C (b2 _) ?_
          (repeat' (first|refine svz ⟨fun b hq=>?_⟩|refine svA ⟨?_⟩|refine svu ⟨fun u=>?_⟩|(refine svG (fun hg=>?_) (fun hg=>?_)<;>try exact svx)|refine svh (fun hb=>?_) (fun hb=>?_)|refine svb (fun b=>?_)|fail))
          rw [q1 (), q2 ()]
          refine R2.C (g2 _) ?_
          (repeat' (first|refine svz ⟨fun b hq=>?_⟩|refine svA ⟨?_⟩|refine svu ⟨fun u=>?_⟩|(refine svG (fun hg=>?_) (fun hg=>?_)<;>try exact svx)|refine svh (fun hb=>?_) (fun hb=>?_)|refine svb (fun b=>?_)|fail))
          exact ⟨i + 1, hlt, lee, by omega⟩
    · (repeat' (first|refine svz ⟨fun b hq=>?_⟩|refine svA ⟨?_⟩|refine svu ⟨fun u=>?_⟩|(refine svG (fun hg=>?_) (fun hg=>?_)<;>try exact svx)|refine svh (fun hb=>?_) (fun hb=>?_)|refine svb (fun b=>?_)|fail))
      exact ⟨j + 1, hjl, lee, by omega⟩
  · (repeat' (first|refine svz ⟨fun b hq=>?_⟩|refine svA ⟨?_⟩|refine svu ⟨fun u=>?_⟩|(refine svG (fun hg=>?_) (fun hg=>?_)<;>try exact svx)|refine svh (fun hb=>?_) (fun hb=>?_)|refine svb (fun b=>?_)|fail))
    exact fin_r (h' := H) ⟨rfl, rfl⟩
end Go.Proofs.YtfbegifmhgkpjaaGreat
