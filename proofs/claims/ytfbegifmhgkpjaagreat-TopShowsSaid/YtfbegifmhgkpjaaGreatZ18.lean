/- law 34: Make. No condition. -/
import Derived.Test.YtfbegifmhgkpjaaGreatZ17
import Derived.Test.YtfbegifmhgkpjaaGreatZ16
namespace Go.Proofs.YtfbegifmhgkpjaaGreat
open Go Go.VM
attribute [local irreducible] PurV Pur Step RL W D ACalls Then InBlock Fini
set_option linter.unusedVariables false
set_option linter.unusedSimpArgs false
set_option maxHeartbeats 20000000
structure WI where
  (up x y w h : Int) (mp sh : Bool) (shape : List RC) (ink : Int)
def WI.enc (a : WI) : AV := .agg [.val (.int .u8 (a.up)), .val (.int .i8 (a.x)), .val (.int .i8 (a.y)), .val (.int .u8 (a.w)), .val (.int .u8 (a.h)), .val (.bool (a.mp)), .val (.bool (a.sh)), .ro 4 (a.shape.map RC.enc), .val (.int .u8 (a.ink))]
structure WI.Ok (a : WI) : Prop where
  up : 0 ≤ a.up ∧ a.up ≤ 255
  x : -128 ≤ a.x ∧ a.x ≤ 127
  y : -128 ≤ a.y ∧ a.y ≤ 127
  w : 0 ≤ a.w ∧ a.w ≤ 255
  h : 0 ≤ a.h ∧ a.h ≤ 255
  ink : 0 ≤ a.ink ∧ a.ink ≤ 255
def WI.bw (a : WI) : Nat := (a.w % 16 + 1).toNat
def WI.bh (a : WI) : Nat := (a.h % 16 + 1).toNat
def WI.sp (a : WI) : List RC := if a.sh then a.shape else []
def WI.box (a : WI) : BW := ⟨a.x, a.y, a.bw, a.bh, a.mp, 0, a.sh, ofF a.sp⟩
structure RW where
  (up x y w h : Int) (mp sh : Bool) (shp : AV) (px : List Int)
def RW.enc (a : RW) : AV := .agg [.val (.int .i64 (a.up)), .val (.int .i64 (a.x)), .val (.int .i64 (a.y)), .val (.int .i64 (a.w)), .val (.int .i64 (a.h)), .val (.bool (a.mp)), .val (.bool (a.sh)), a.shp, .ro 1 (ints .u8 a.px)]
theorem WI.Ok.wh {a : WI} (k : a.Ok) : (1 ≤ a.bw ∧ a.bw ≤ 16) ∧ (1 ≤ a.bh ∧ a.bh ≤ 16) ∧ (a.bw : Int) = a.w % 16 + 1 ∧ (a.bh : Int) = a.h % 16 + 1 := by
  have h1 := k.w; have h2 := k.h
  unfold WI.bw WI.bh
  omega
theorem smR.ok {r : RC} (h : smR r) : r.ok := by
  obtain ⟨h1, h2, h3, h4⟩ := h
  constructor <;> (unfold I64; omega)
theorem smL.all {l : List RC} (h : smL l = true) : ∀ r ∈ l, smR r := by
  unfold smL at h
  rw [Bool.and_eq_true, decide_eq_true_iff] at h
  exact h.1
theorem smL.bx {l : List RC} (h : ∀ r ∈ l, smR r) : Bx 100 300 (ofF l) := .of fun r hr hc => by
  obtain ⟨h1, h2, h3, h4⟩ := h r hr
  omega
theorem WI.box_ok (a : WI) (k : a.Ok) (hs : smL a.shape = true) : a.box.Ok := by
  have := k.wh
  have hsp : ∀ r ∈ a.sp, smR r := by
    unfold WI.sp
    split
    · exact smL.all hs
    · intro r hr; cases hr
  refine ⟨k.x, k.y, ?_, ?_, ?_, smL.bx hsp, fun h => ?_⟩
  · show 1 ≤ ((a.bw : Nat) : Int) ∧ ((a.bw : Nat) : Int) ≤ 16; omega
  · show 1 ≤ ((a.bh : Nat) : Int) ∧ ((a.bh : Nat) : Int) ≤ 16; omega
  · show (0 : Int) ≤ 0 ∧ (0 : Int) ≤ 10; omega
  · show ofF a.sp = []
    unfold WI.sp
    rw [show a.sh = false from h, if_neg (by decide)]
    exact can_nil
theorem idT_pos {n : Nat} (h : n ≠ 0) : idT n = 1048576 + (n : Int) := by unfold idT; rw [if_neg h]
theorem idT_inj {n m : Nat} (h : idT n = idT m) : n = m := by
  unfold idT at h
  split at h <;> split at h <;> omega
theorem idT_bd {n : Nat} (h : n ≤ 1000) : 0 ≤ idT n ∧ idT n ≤ 4294967295 := by unfold idT; split <;> omega
theorem idT_ic {n : Nat} (h : n ≤ 1000) : icF (idT n) = 0 := by
  unfold icF
  have hb := idT_bd h
  have h0 : idT n ≠ 0 := by unfold idT; split <;> omega
  rw [if_neg h0]
  by_cases hn : n = 0
  · subst hn
    rw [show idT 0 = 1 from rfl, show cliF 1 = (0, true) from rfl, if_pos rfl]
  · have h1 : idT n ≠ 1 := by rw [idT_pos hn]; omega
    have h2 : idT n / 1048576 = 1 := by rw [idT_pos hn]; omega
    have h3 : idT n % 1048576 = n := by rw [idT_pos hn]; omega
    have hc : cliF (idT n) = (1, true) := by
      unfold cliF
      rw [if_neg h1, h2, h3, if_neg (by unfold isC; simp; omega)]
    rw [hc, if_pos rfl]
structure MK (l : List WI) (i : Nat) (k : SVT) (up : UP) (t : PW) (c : CN) (L : List RW) : Prop where
  tw : TW k up
  ul : up.length + 1 = i
  has : ∀ id, hasT up id = true → ∃ j, j < i ∧ id = idT j
  has' : ∀ j, j < i → hasT up (idT j) = true
  tb : ∀ j, j < i → ∃ b, lkF t (idT j) = some b
  tok : ∀ id b, lkF t id = some b → b.Ok
  tl : t.length ≤ i
  tne : t ≠ []
  cn : (c.map (·.1)).Nodup
  cl : c.length ≤ i
  cit : ∀ p ∈ c, ∃ j, j < i ∧ p.1 = idT j ∧ p.2.g.Ok ∧ p.2.gd = 0 ∧ p.2.win = true ∧ p.2.bk = decide (j = 0) ∧ ∃ b, lkF t (idT j) = some b ∧ b.w = p.2.g.w ∧ b.h = p.2.g.h
  chas : ∀ j, j < i → ∃ it, lkF c (idT j) = some it
  root : ∃ a r, l[0]? = some a ∧ L[0]? = some r ∧ r.w = (a.bw : Int) ∧ r.h = (a.bh : Int) ∧ lkF t 1 = some (rootB (a.bw : Int) (a.bh : Int)) ∧ lkF c 1 = some ⟨⟨a.bw, a.bh, inkF a.bw a.bh a.ink⟩, 0, true, true⟩
  ll : L.length = i
theorem mk_one {l : List WI} {a : WI} (ha : l[0]? = some a) (ka : a.Ok) : MK l 1 [] [] [(1, rootB (a.w % 16 + 1) (a.h % 16 + 1))] [(1, ⟨⟨a.bw, a.bh, inkF a.bw a.bh a.ink⟩, 0, true, true⟩)] [⟨-1, 0, 0, a.w % 16 + 1, a.h % 16 + 1, true, false, .val (.slice none 0 0), inkF a.bw a.bh a.ink⟩] := by
  obtain ⟨k1, k2, k3, k4⟩ := ka.wh
  have hg : (⟨a.bw, a.bh, inkF a.bw a.bh a.ink⟩ : GR).Ok := ⟨by dsimp only; omega, by dsimp only; omega, inkF_len _ _ _, inkF_px _ _ _⟩
  have hj : ∀ j, j < 1 → j = 0 := fun j h => by omega
  have hb : (rootB (a.w % 16 + 1) (a.h % 16 + 1)).Ok := ⟨by unfold rootB; dsimp only; omega, by unfold rootB; dsimp only; omega, by unfold rootB; dsimp only; omega, by unfold rootB; dsimp only; omega, by unfold rootB; dsimp only; omega, Bx.nil _ _, fun _ => rfl⟩
  refine ⟨TW.start, rfl, fun id h => ⟨0, by omega, ?_⟩, fun j h => ?_, fun j h => ?_, fun id b h => ?_, by simp, by simp, by simp, by simp, fun p hp => ⟨0, by omega, ?_⟩, fun j h => ?_, ⟨a, _, ha, rfl, k3.symm, k4.symm, ?_, rfl⟩, rfl⟩
  · unfold hasT at h; simpa [lkF, idT] using h
  · rw [hj j h]; rfl
  · rw [hj j h]; exact ⟨_, rfl⟩
  · have h1 := lkF_mem h
    rw [List.mem_singleton] at h1
    injection h1 with _ h2
    rw [h2]; exact hb
  · rw [List.mem_singleton] at hp
    subst hp
    exact ⟨rfl, hg, rfl, rfl, rfl, _, rfl, k3.symm, k4.symm⟩
  · rw [hj j h]; exact ⟨_, rfl⟩
  · rw [k3, k4]; rfl
theorem MK.no {l : List WI} {i : Nat} {k : SVT} {up : UP} {t : PW} {c : CN} {L : List RW} (m : MK l i k up t c L) {j : Nat} (h : i ≤ j) : lkF up (idT j) = none ∧ hasT up (idT j) = false := by
  have hh : hasT up (idT j) = false := by
    cases e : hasT up (idT j) with
    | false => rfl
    | true =>
      obtain ⟨n, h1, h2⟩ := m.has _ e
      have := idT_inj h2
      omega
  refine ⟨?_, hh⟩
  unfold hasT at hh
  rw [Bool.or_eq_false_iff] at hh
  cases e : lkF up (idT j) with
  | none => rfl
  | some x => rw [e] at hh; cases hh.1
theorem MK.cno {l : List WI} {i : Nat} {k : SVT} {up : UP} {t : PW} {c : CN} {L : List RW} (m : MK l i k up t c L) {j : Nat} (h : i ≤ j) : lkF c (idT j) = none := by
  cases e : lkF c (idT j) with
  | none => rfl
  | some x =>
    obtain ⟨n, h1, h2, _⟩ := m.cit _ (lkF_mem e)
    have := idT_inj h2
    omega
theorem idT_0 {j : Nat} (h : j ≠ 0) : idT j ≠ 1 := by rw [idT_pos h]; omega
theorem MK.succ {l : List WI} {i : Nat} {k : SVT} {up : UP} {t : PW} {c : CN} {L : List RW} (m : MK l i k up t c L) {a : WI} (ha : l[i]? = some a) (ka : a.Ok) (hs : smL a.shape = true) (hi : i < l.length) {u : Nat} (hu : u < i) {r : RW} :
    MK l (i + 1) (putF k (idT u) (ofS k (idT u) ++ [idT i])) (putF up (idT i) (idT u)) (putF t (idT i) a.box) (putF c (idT i) ⟨⟨a.bw, a.bh, inkF a.bw a.bh a.ink⟩, 0, true, false⟩) (L ++ [r]) := by
  obtain ⟨k1, k2, k3, k4⟩ := ka.wh
  have hi0 : i ≠ 0 := by omega
  have hno := m.no (Nat.le_refl i)
  have hg : (⟨a.bw, a.bh, inkF a.bw a.bh a.ink⟩ : GR).Ok := ⟨by dsimp only; omega, by dsimp only; omega, inkF_len _ _ _, inkF_px _ _ _⟩
  have hne : ∀ {j}, j < i → idT j ≠ idT i := fun h e => by have := idT_inj e; omega
  have hlen : (putF up (idT i) (idT u)).length = up.length + 1 := by unfold putF; rw [hno.1]; simp
  refine ⟨m.tw.add (idT_0 hi0) hno.1 (m.has' u hu), by rw [hlen, m.ul], fun id h => ?_, fun j h => ?_, fun j h => ?_, fun id b h => ?_, Nat.le_trans (putF_len _ _ _) (Nat.succ_le_succ m.tl), ?_, putF_nodup _ _ m.cn, Nat.le_trans (putF_len _ _ _) (Nat.succ_le_succ m.cl), fun p hp => ?_, fun j h => ?_, ?_, by simp [m.ll]⟩
  · unfold hasT at h
    rw [lk_put] at h
    by_cases e : id = idT i
    · exact ⟨i, by omega, e⟩
    · rw [if_neg e] at h
      obtain ⟨j, h1, h2⟩ := m.has id h
      exact ⟨j, by omega, h2⟩
  · unfold hasT
    rw [lk_put]
    by_cases e : j = i
    · subst e; rw [if_pos rfl]; rfl
    · rw [if_neg (hne (by omega))]
      exact m.has' j (by omega)
  · rw [lk_put]
    by_cases e : j = i
    · subst e; rw [if_pos rfl]; exact ⟨_, rfl⟩
    · rw [if_neg (hne (by omega))]
      exact m.tb j (by omega)
  · rw [lk_put] at h
    split at h
    · injection h with h; rw [← h]; exact a.box_ok ka hs
    · exact m.tok id b h
  · intro e
    have h1 := lk_put_same t (idT i) a.box
    rw [e] at h1
    cases h1
  · rcases putF_mem hp with rfl | hp
    · refine ⟨i, by omega, rfl, hg, rfl, rfl, (decide_eq_false hi0).symm, a.box, lk_put_same _ _ _, rfl, rfl⟩
    · obtain ⟨j, h1, h2, h3, h4, h5, h6, b, h7, h8⟩ := m.cit p hp
      exact ⟨j, by omega, h2, h3, h4, h5, h6, b, by rw [lk_put, if_neg (hne h1)]; exact h7, h8⟩
  · rw [lk_put]
    by_cases e : j = i
    · subst e; rw [if_pos rfl]; exact ⟨_, rfl⟩
    · rw [if_neg (hne (by omega))]
      exact m.chas j (by omega)
  · obtain ⟨a0, r0, h1, h2, h3, h4, h5, h6⟩ := m.root
    refine ⟨a0, r0, h1, ?_, h3, h4, ?_, ?_⟩
    · rw [List.getElem?_append_left (by have := m.ll; omega)]; exact h2
    · rw [lk_put, if_neg (Ne.symm (idT_0 hi0))]; exact h5
    · rw [lk_put, if_neg (Ne.symm (idT_0 hi0))]; exact h6
set_option maxRecDepth 100000 in
theorem make_c (l : List WI) (h : Heap) (hl : l.length ≤ 9223372036854775807) (ok : ∀ a ∈ l, a.Ok) : ACalls Tryz.prog 5 [.ro 9 (l.map WI.enc)] h
    (fun r h' => ∃ (v : Value) (k : SVT) (up : UP) (t : PW) (c : CN) (L : List RW) (q : Bool), r = .tup [.agg [mapV .u32 vIds k, mapV .u32 (vI .u32) up, mapV .u32 vBox t, mapV .u32 vIt c, .val v], .val (.bool (q))] ∧ h' = .own v 9 (L.map RW.enc) 80 :: h ∧ (q = true → (1 ≤ l.length ∧ l.length ≤ 7) ∧ MK l l.length k up t c L) ∧ (q = false → ¬ (1 ≤ l.length ∧ l.length ≤ 7) ∨ ∃ a ∈ l, smL a.shape = false)) := by
  by_cases hlen : 1 ≤ l.length ∧ l.length ≤ 7
  · refine ACalls.intro Tryz.func5 rfl Tryz.ntmps5 Tryz.results5 (Nat.le_of_ble_eq_true rfl) ?_
    (repeat' (first|refine svz ⟨fun b hq=>?_⟩|refine svA ⟨?_⟩|refine svu ⟨fun u=>?_⟩|(refine svG (fun hg=>?_) (fun hg=>?_)<;>try exact svx)|refine svh (fun hb=>?_) (fun hb=>?_)|refine svb (fun b=>?_)|fail))
    revert b; rename Nat => b2; revert b2; intro b2 b4
    refine W.nil_ 9 80 ?_
    refine W.loop (J := fun z : Nat × Value × (SVT × UP × PW × CN) × List RW => ⟨178, [(25, .val (.int .i64 ((z.1 : Nat)))), (24, .val (.int .i64 ((l.length : Nat)))), (23, .ro 9 (l.map WI.enc)), (4, .val (.pointer (some ⟨b4, 0, none⟩))), (2, .val (.pointer (some ⟨b2, 0, none⟩))), (3, .val (.bool (false)))], .box b4 [mapV .u32 vIds z.2.2.1.1, mapV .u32 (vI .u32) z.2.2.1.2.1, mapV .u32 vBox z.2.2.1.2.2.1, mapV .u32 vIt z.2.2.1.2.2.2, .val z.2.1] 37 :: .own z.2.1 9 (z.2.2.2.map RW.enc) 80 :: .box b2 [.val (.map none), .val (.map none), .val (.map none), .val (.map none), .val (.slice none 0 0)] 37 :: h⟩)
      (Φ := fun z => z.1 ≤ l.length ∧ (z.1 = 0 → z.2.2.1 = ([], [], [], []) ∧ z.2.2.2 = []) ∧ (0 < z.1 → MK l z.1 z.2.2.1.1 z.2.2.1.2.1 z.2.2.1.2.2.1 z.2.2.1.2.2.2 z.2.2.2)) (μ := fun z => l.length - z.1) (0, .slice none 0 0, ([], [], [], []), []) lee ⟨Nat.zero_le _, fun _ => ⟨rfl, rfl⟩, fun h => absurd h (Nat.lt_irrefl _)⟩ ?_
    rintro ⟨i, v, ⟨k, up, t, c⟩, L⟩ ⟨hi, hz, hm⟩
    dsimp only at hi hz hm ⊢
    rcases Nat.lt_or_ge i l.length with hlt | hge
    · obtain ⟨a, ha⟩ : ∃ a, l[i]? = some a := ⟨_, List.getElem?_eq_getElem hlt⟩
      have ka := ok a (List.mem_of_getElem? ha)
      have kw := ka.wh
      have sm := fun h => small_c a.shape h
      have pe : a.enc = .agg [.val (.int .u8 (a.up)), .val (.int .i8 (a.x)), .val (.int .i8 (a.y)), .val (.int .u8 (a.w)), .val (.int .u8 (a.h)), .val (.bool (a.mp)), .val (.bool (a.sh)), .ro 4 (a.shape.map RC.enc), .val (.int .u8 (a.ink))] := rfl
      have kw1 := ka.w; have kh1 := ka.h
      cases hs : smL a.shape with
      | false =>
        rw [hs] at sm
        (repeat' (first|refine svz ⟨fun b hq=>?_⟩|refine svA ⟨?_⟩|refine svu ⟨fun u=>?_⟩|(refine svG (fun hg=>?_) (fun hg=>?_)<;>try exact svx)|refine svh (fun hb=>?_) (fun hb=>?_)|refine svb (fun b=>?_)|fail))
        refine S.call ?_; refine (sm _).mono ?_; rintro r h' ⟨rfl, hh⟩; subst hh
        (repeat' (first|refine svz ⟨fun b hq=>?_⟩|refine svA ⟨?_⟩|refine svu ⟨fun u=>?_⟩|(refine svG (fun hg=>?_) (fun hg=>?_)<;>try exact svx)|refine svh (fun hb=>?_) (fun hb=>?_)|refine svb (fun b=>?_)|fail))
        exact fin_r (h' := .own v 9 (L.map RW.enc) 80 :: h) ⟨v, k, up, t, c, L, false, rfl, rfl, fun q => (by cases q), fun _ => .inr ⟨a, List.mem_of_getElem? ha, hs⟩⟩
      | true =>
        rw [hs] at sm
        have ik := fun H => ink_c a.bw a.bh a.ink H kw.1 kw.2.1
        have pl := fun H => plane_c a.bw a.bh (inkF a.bw a.bh a.ink) H kw.1 kw.2.1 (inkF_len _ _ _) (inkF_px _ _ _)
        rw [kw.2.2.1, kw.2.2.2] at ik pl
        rcases Nat.eq_zero_or_pos i with h0 | hpos
        · subst h0
          obtain ⟨hz1, hz2⟩ := hz rfl
          injection hz1 with e1 hz1; injection hz1 with e2 hz1; injection hz1 with e3 e4
          subst e1; subst e2; subst e3; subst e4; subst hz2
          unfold encG at pl
          dsimp only at pl
          have nw := new_c
          unfold encT at nw
          have li := fun h => lid_c 0 h (by omega)
          rw [show idT 0 = 1 from rfl] at li
          have pn := fun h => pnew_c (a.w % 16 + 1) (a.h % 16 + 1) h (by omega) (by omega)
          have op := fun h => copen_c [] 1 a.bw a.bh 0 true h (by omega) (by omega) (idT_ic (n := 0) (by omega)) rfl (by simp) (by simp) (by omega) (by omega)
          rw [kw.2.2.1, kw.2.2.2, show putF ([] : CN) 1 ⟨⟨a.bw, a.bh, List.replicate (a.bw * a.bh) 0⟩, 0, true, true⟩ = [(1, ⟨⟨a.bw, a.bh, List.replicate (a.bw * a.bh) 0⟩, 0, true, true⟩)] from rfl] at op
          have ly := fun h => clay_c [(1, (⟨⟨a.bw, a.bh, List.replicate (a.bw * a.bh) 0⟩, 0, true, true⟩ : IT))] 1 ⟨⟨a.bw, a.bh, List.replicate (a.bw * a.bh) 0⟩, 0, true, true⟩ ⟨a.bw, a.bh, inkF a.bw a.bh a.ink⟩ h rfl rfl rfl (by simp) (by simp)
          rw [show putF [(1, (⟨⟨a.bw, a.bh, List.replicate (a.bw * a.bh) 0⟩, 0, true, true⟩ : IT))] 1 { (⟨⟨a.bw, a.bh, List.replicate (a.bw * a.bh) 0⟩, 0, true, true⟩ : IT) with g := ⟨a.bw, a.bh, inkF a.bw a.bh a.ink⟩ } = [(1, ⟨⟨a.bw, a.bh, inkF a.bw a.bh a.ink⟩, 0, true, true⟩)] from rfl] at ly
          unfold encC encG at ly
          unfold encC at op
          unfold encP at pn
          dsimp only at ly
          have hmk : MK l 1 [] [] [(1, rootB (a.w % 16 + 1) (a.h % 16 + 1))] [(1, ⟨⟨a.bw, a.bh, inkF a.bw a.bh a.ink⟩, 0, true, true⟩)] [⟨-1, 0, 0, a.w % 16 + 1, a.h % 16 + 1, true, false, .val (.slice none 0 0), inkF a.bw a.bh a.ink⟩] := mk_one ha ka
          generalize ([(1, (⟨⟨a.bw, a.bh, List.replicate (a.bw * a.bh) 0⟩, 0, true, true⟩ : IT))] : CN) = c1 at *
          generalize hc2 : ([(1, (⟨⟨a.bw, a.bh, inkF a.bw a.bh a.ink⟩, 0, true, true⟩ : IT))] : CN) = c2 at *
          generalize ([(1, rootB (a.w % 16 + 1) (a.h % 16 + 1))] : PW) = t2 at *
          generalize inkF a.bw a.bh a.ink = px at *
          (repeat' (first|refine svz ⟨fun b hq=>?_⟩|refine svA ⟨?_⟩|refine svu ⟨fun u=>?_⟩|(refine svG (fun hg=>?_) (fun hg=>?_)<;>try exact svx)|refine svh (fun hb=>?_) (fun hb=>?_)|refine svb (fun b=>?_)|fail))
          revert b; intro b6
          refine S.call ?_; refine (sm _).mono ?_; rintro r h' ⟨rfl, hh⟩; subst hh
          (repeat' (first|refine svz ⟨fun b hq=>?_⟩|refine svA ⟨?_⟩|refine svu ⟨fun u=>?_⟩|(refine svG (fun hg=>?_) (fun hg=>?_)<;>try exact svx)|refine svh (fun hb=>?_) (fun hb=>?_)|refine svb (fun b=>?_)|fail))
          refine S.call ?_; refine (ik _).mono ?_; rintro r h' ⟨rfl, hh⟩; subst hh
          (repeat' (first|refine svz ⟨fun b hq=>?_⟩|refine svA ⟨?_⟩|refine svu ⟨fun u=>?_⟩|(refine svG (fun hg=>?_) (fun hg=>?_)<;>try exact svx)|refine svh (fun hb=>?_) (fun hb=>?_)|refine svb (fun b=>?_)|fail))
          revert b; intro b9
          refine S.call ?_; refine (pl _).mono ?_; rintro r h' ⟨rfl, hh⟩; subst hh
          (repeat' (first|refine svz ⟨fun b hq=>?_⟩|refine svA ⟨?_⟩|refine svu ⟨fun u=>?_⟩|(refine svG (fun hg=>?_) (fun hg=>?_)<;>try exact svx)|refine svh (fun hb=>?_) (fun hb=>?_)|refine svb (fun b=>?_)|fail))
          revert b; intro b10
          refine S.call ?_; refine (nw _).mono ?_; rintro r h' ⟨rfl, hh⟩; subst hh
          (repeat' (first|refine svz ⟨fun b hq=>?_⟩|refine svA ⟨?_⟩|refine svu ⟨fun u=>?_⟩|(refine svG (fun hg=>?_) (fun hg=>?_)<;>try exact svx)|refine svh (fun hb=>?_) (fun hb=>?_)|refine svb (fun b=>?_)|fail))
          refine S.store_any ?_ (hl := Nat.le_of_ble_eq_true rfl)
          (repeat' (first|refine svz ⟨fun b hq=>?_⟩|refine svA ⟨?_⟩|refine svu ⟨fun u=>?_⟩|(refine svG (fun hg=>?_) (fun hg=>?_)<;>try exact svx)|refine svh (fun hb=>?_) (fun hb=>?_)|refine svb (fun b=>?_)|fail))
          refine S.call ?_; refine (pn _).mono ?_; rintro r h' ⟨rfl, hh⟩; subst hh
          (repeat' (first|refine svz ⟨fun b hq=>?_⟩|refine svA ⟨?_⟩|refine svu ⟨fun u=>?_⟩|(refine svG (fun hg=>?_) (fun hg=>?_)<;>try exact svx)|refine svh (fun hb=>?_) (fun hb=>?_)|refine svb (fun b=>?_)|fail))
          refine S.store_any ?_ (hl := Nat.le_of_ble_eq_true rfl)
          (repeat' (first|refine svz ⟨fun b hq=>?_⟩|refine svA ⟨?_⟩|refine svu ⟨fun u=>?_⟩|(refine svG (fun hg=>?_) (fun hg=>?_)<;>try exact svx)|refine svh (fun hb=>?_) (fun hb=>?_)|refine svb (fun b=>?_)|fail))
          refine R2.C (li _) ?_
          (repeat' (first|refine svz ⟨fun b hq=>?_⟩|refine svA ⟨?_⟩|refine svu ⟨fun u=>?_⟩|(refine svG (fun hg=>?_) (fun hg=>?_)<;>try exact svx)|refine svh (fun hb=>?_) (fun hb=>?_)|refine svb (fun b=>?_)|fail))
          refine R2.C (op _) ?_
          (repeat' (first|refine svz ⟨fun b hq=>?_⟩|refine svA ⟨?_⟩|refine svu ⟨fun u=>?_⟩|(refine svG (fun hg=>?_) (fun hg=>?_)<;>try exact svx)|refine svh (fun hb=>?_) (fun hb=>?_)|refine svb (fun b=>?_)|fail))
          refine S.store_any ?_ (hl := Nat.le_of_ble_eq_true rfl)
          (repeat' (first|refine svz ⟨fun b hq=>?_⟩|refine svA ⟨?_⟩|refine svu ⟨fun u=>?_⟩|(refine svG (fun hg=>?_) (fun hg=>?_)<;>try exact svx)|refine svh (fun hb=>?_) (fun hb=>?_)|refine svb (fun b=>?_)|fail))
          refine R2.C (li _) ?_
          (repeat' (first|refine svz ⟨fun b hq=>?_⟩|refine svA ⟨?_⟩|refine svu ⟨fun u=>?_⟩|(refine svG (fun hg=>?_) (fun hg=>?_)<;>try exact svx)|refine svh (fun hb=>?_) (fun hb=>?_)|refine svb (fun b=>?_)|fail))
          refine R2.C (ly _) ?_
          (repeat' (first|refine svz ⟨fun b hq=>?_⟩|refine svA ⟨?_⟩|refine svu ⟨fun u=>?_⟩|(refine svG (fun hg=>?_) (fun hg=>?_)<;>try exact svx)|refine svh (fun hb=>?_) (fun hb=>?_)|refine svb (fun b=>?_)|fail))
          refine S.store_any ?_ (hl := Nat.le_of_ble_eq_true rfl)
          (repeat' (first | (refine iR2 ?_; refine r2b ?_; refine R2.one ?_) | (refine iS ?_; refine iN ?_; refine S.build1r ?_) | (refine iS ?_; refine iMu ?_; refine S.mapU ?_) | refine svz ⟨fun b hq=>?_⟩|refine svT ⟨?_⟩|refine svu ⟨fun u=>?_⟩|(refine svG (fun hg=>?_) (fun hg=>?_)<;>try exact svx)|refine svh (fun hb=>?_) (fun hb=>?_)|refine svb (fun b=>?_) | refine sva ?_ | refine sv3 ?_ | fail))
          refine ⟨(1, u, ([], [], t2, c2), [⟨-1, 0, 0, a.w % 16 + 1, a.h % 16 + 1, true, false, .val (.slice none 0 0), px⟩]), ⟨hlt, fun h => absurd h Nat.one_ne_zero, fun _ => hmk⟩, ?_, by dsimp only; omega⟩
          dsimp only
          exact lee
        · have mk := hm hpos
          have hin : (0 : Int) < (i : Int) := by omega
          have hi7 : i ≤ 7 := by omega
          obtain ⟨uj, huj⟩ : ∃ n : Nat, a.up % (i : Int) = (n : Int) := ⟨(a.up % (i : Int)).toNat, (Int.toNat_of_nonneg (Int.emod_nonneg _ (by omega))).symm⟩
          have hujl : uj < i := by have := Int.emod_lt_of_pos a.up hin; omega
          have hq : Unit → a.up % (i : Int) = (uj : Int) := fun _ => huj
          clear huj
          have li := fun h => lid_c i h (by omega)
          have lj := fun h => lid_c uj h (by omega)
          have hib := idT_bd (n := i) (by omega)
          have hid1 : idT i ≠ 1 := by rw [idT_pos (by omega)]; omega
          have hno := mk.no (Nat.le_refl i)
          have ad := fun h => add_c k up (idT i) (idT uj) h hib.1 hib.2 (idT_ic (by omega)) hno.2 (mk.has' uj hujl) (by have := mk.ul; omega) mk.tw.kn mk.tw.un (fun q hq => by have := mk.tw.ol q hq; have := mk.ul; omega) (by have := mk.tw.ofl (idT uj); have := mk.ul; omega) (by have := mk.tw.kl; have := mk.ul; omega)
          have ps := fun h => pset_c t (idT i) a.box h hib.1 hib.2 hid1 (idT_ic (by omega)) (a.box_ok ka hs) mk.tne (by have := mk.tl; omega)
          have op := fun h => copen_c c (idT i) a.bw a.bh 0 false h hib.1 hib.2 (idT_ic (by omega)) (mk.cno (Nat.le_refl i)) mk.cn (by have := mk.cl; omega) (by omega) (by omega)
          have ly := fun h => clay_c (putF c (idT i) (⟨⟨a.bw, a.bh, List.replicate (a.bw * a.bh) 0⟩, 0, true, false⟩ : IT)) (idT i) ⟨⟨a.bw, a.bh, List.replicate (a.bw * a.bh) 0⟩, 0, true, false⟩ ⟨a.bw, a.bh, inkF a.bw a.bh a.ink⟩ h (lk_put_same _ _ _) rfl rfl (putF_nodup _ _ mk.cn) (by have := putF_len c (idT i) (⟨⟨a.bw, a.bh, List.replicate (a.bw * a.bh) 0⟩, 0, true, false⟩ : IT); have := mk.cl; omega)
          have hof : ∀ r ∈ a.sp, r.ok := fun r hr => by
            unfold WI.sp at hr
            split at hr
            · exact (smL.all hs r hr).ok
            · cases hr
          have oc := fun h => of_c a.sp h (by unfold WI.sp; split; have := smL.all hs; unfold smL at hs; rw [Bool.and_eq_true, decide_eq_true_iff, decide_eq_true_iff] at hs; omega; simp) hof
          rw [putF_twice] at ly
          have mk2 := fun r : RW => mk.succ (r := r) ha ka hs hlt hujl
          rw [kw.2.2.1, kw.2.2.2] at op
          have evb : vBox a.box = .agg [.val (.int .i64 (a.x)), .val (.int .i64 (a.y)), .val (.int .i64 (a.w % 16 + 1)), .val (.int .i64 (a.h % 16 + 1)), .val (.bool (a.mp)), .val (.int .i64 (0)), .val (.int .i64 (0)), .val (.bool (a.sh)), .ro 4 ((ofF a.sp).map RC.enc)] := by rw [← kw.2.2.1, ← kw.2.2.2]; rfl
          rw [evb] at ps
          generalize putF c (idT i) (⟨⟨a.bw, a.bh, List.replicate (a.bw * a.bh) 0⟩, 0, true, false⟩ : IT) = c1 at *
          dsimp only at ly
          generalize putF c (idT i) (⟨⟨a.bw, a.bh, inkF a.bw a.bh a.ink⟩, 0, true, false⟩ : IT) = c2 at *
          generalize putF t (idT i) a.box = t2 at *
          generalize putF k (idT uj) (ofS k (idT uj) ++ [idT i]) = k2 at *
          generalize putF up (idT i) (idT uj) = up2 at *
          generalize ofF a.sp = SPF at *
          generalize inkF a.bw a.bh a.ink = px at *
          have hLl := mk.ll
          have hi0 : ¬ (i : Int) = 0 := by omega
          clear evb hof hno mk hm hz hid1 hib
          unfold encC encG at ly
          unfold encC at op
          unfold encP at ps
          unfold encT at ad
          unfold encG at pl
          dsimp only at ly pl
          have kx := ka.x; have ky := ka.y; have ku := ka.up
          generalize idT i = I at *
          generalize idT uj = U at *
          (repeat' (first|refine svz ⟨fun b hq=>?_⟩|refine svA ⟨?_⟩|refine svu ⟨fun u=>?_⟩|(refine svG (fun hg=>?_) (fun hg=>?_)<;>try exact svx)|refine svh (fun hb=>?_) (fun hb=>?_)|refine svb (fun b=>?_)|fail))
          revert b; intro b6
          refine S.call ?_; refine (sm _).mono ?_; rintro r h' ⟨rfl, hh⟩; subst hh
          (repeat' (first|refine svz ⟨fun b hq=>?_⟩|refine svA ⟨?_⟩|refine svu ⟨fun u=>?_⟩|(refine svG (fun hg=>?_) (fun hg=>?_)<;>try exact svx)|refine svh (fun hb=>?_) (fun hb=>?_)|refine svb (fun b=>?_)|fail))
          refine S.call ?_; refine (ik _).mono ?_; rintro r h' ⟨rfl, hh⟩; subst hh
          (repeat' (first|refine svz ⟨fun b hq=>?_⟩|refine svA ⟨?_⟩|refine svu ⟨fun u=>?_⟩|(refine svG (fun hg=>?_) (fun hg=>?_)<;>try exact svx)|refine svh (fun hb=>?_) (fun hb=>?_)|refine svb (fun b=>?_)|fail))
          revert b; intro b9
          refine S.call ?_; refine (pl _).mono ?_; rintro r h' ⟨rfl, hh⟩; subst hh
          (repeat' (first|refine svz ⟨fun b hq=>?_⟩|refine svA ⟨?_⟩|refine svu ⟨fun u=>?_⟩|(refine svG (fun hg=>?_) (fun hg=>?_)<;>try exact svx)|refine svh (fun hb=>?_) (fun hb=>?_)|refine svb (fun b=>?_)|fail))
          revert b; intro b10
          refine W.dr (.ro (.rw (.ro (.done _)))) ?_
          (repeat' (first|refine svz ⟨fun b hq=>?_⟩|refine svA ⟨?_⟩|refine svu ⟨fun u=>?_⟩|(refine svG (fun hg=>?_) (fun hg=>?_)<;>try exact svx)|refine svh (fun hb=>?_) (fun hb=>?_)|refine svb (fun b=>?_)|fail))
          · rename_i hb
            rw [show a.sp = a.shape by unfold WI.sp; rw [hb, if_pos rfl]] at oc
            rw [hq ()]; refine R2.C (li _) ?_; (repeat' (first|refine svz ⟨fun b hq=>?_⟩|refine svA ⟨?_⟩|refine svu ⟨fun u=>?_⟩|(refine svG (fun hg=>?_) (fun hg=>?_)<;>try exact svx)|refine svh (fun hb=>?_) (fun hb=>?_)|refine svb (fun b=>?_)|fail)); refine R2.C (lj _) ?_; (repeat' (first|refine svz ⟨fun b hq=>?_⟩|refine svA ⟨?_⟩|refine svu ⟨fun u=>?_⟩|(refine svG (fun hg=>?_) (fun hg=>?_)<;>try exact svx)|refine svh (fun hb=>?_) (fun hb=>?_)|refine svb (fun b=>?_)|fail)); refine R2.C (ad _) ?_; (repeat' (first|refine svz ⟨fun b hq=>?_⟩|refine svA ⟨?_⟩|refine svu ⟨fun u=>?_⟩|(refine svG (fun hg=>?_) (fun hg=>?_)<;>try exact svx)|refine svh (fun hb=>?_) (fun hb=>?_)|refine svb (fun b=>?_)|fail)); refine S.store_any ?_ (hl := Nat.le_of_ble_eq_true rfl); (repeat' (first|refine svz ⟨fun b hq=>?_⟩|refine svA ⟨?_⟩|refine svu ⟨fun u=>?_⟩|(refine svG (fun hg=>?_) (fun hg=>?_)<;>try exact svx)|refine svh (fun hb=>?_) (fun hb=>?_)|refine svb (fun b=>?_)|fail)); refine R2.C (li _) ?_; (repeat' (first|refine svz ⟨fun b hq=>?_⟩|refine svA ⟨?_⟩|refine svu ⟨fun u=>?_⟩|(refine svG (fun hg=>?_) (fun hg=>?_)<;>try exact svx)|refine svh (fun hb=>?_) (fun hb=>?_)|refine svb (fun b=>?_)|fail)); refine R2.C (oc _) ?_; (repeat' (first|refine svz ⟨fun b hq=>?_⟩|refine svA ⟨?_⟩|refine svu ⟨fun u=>?_⟩|(refine svG (fun hg=>?_) (fun hg=>?_)<;>try exact svx)|refine svh (fun hb=>?_) (fun hb=>?_)|refine svb (fun b=>?_)|fail)); refine R2.C (ps _) ?_; (repeat' (first|refine svz ⟨fun b hq=>?_⟩|refine svA ⟨?_⟩|refine svu ⟨fun u=>?_⟩|(refine svG (fun hg=>?_) (fun hg=>?_)<;>try exact svx)|refine svh (fun hb=>?_) (fun hb=>?_)|refine svb (fun b=>?_)|fail)); refine S.store_any ?_ (hl := Nat.le_of_ble_eq_true rfl); (repeat' (first|refine svz ⟨fun b hq=>?_⟩|refine svA ⟨?_⟩|refine svu ⟨fun u=>?_⟩|(refine svG (fun hg=>?_) (fun hg=>?_)<;>try exact svx)|refine svh (fun hb=>?_) (fun hb=>?_)|refine svb (fun b=>?_)|fail)); refine R2.C (li _) ?_; (repeat' (first|refine svz ⟨fun b hq=>?_⟩|refine svA ⟨?_⟩|refine svu ⟨fun u=>?_⟩|(refine svG (fun hg=>?_) (fun hg=>?_)<;>try exact svx)|refine svh (fun hb=>?_) (fun hb=>?_)|refine svb (fun b=>?_)|fail)); rw [decide_eq_false hi0]; refine R2.C (op _) ?_; (repeat' (first|refine svz ⟨fun b hq=>?_⟩|refine svA ⟨?_⟩|refine svu ⟨fun u=>?_⟩|(refine svG (fun hg=>?_) (fun hg=>?_)<;>try exact svx)|refine svh (fun hb=>?_) (fun hb=>?_)|refine svb (fun b=>?_)|fail)); refine S.store_any ?_ (hl := Nat.le_of_ble_eq_true rfl); (repeat' (first|refine svz ⟨fun b hq=>?_⟩|refine svA ⟨?_⟩|refine svu ⟨fun u=>?_⟩|(refine svG (fun hg=>?_) (fun hg=>?_)<;>try exact svx)|refine svh (fun hb=>?_) (fun hb=>?_)|refine svb (fun b=>?_)|fail)); refine R2.C (li _) ?_; (repeat' (first|refine svz ⟨fun b hq=>?_⟩|refine svA ⟨?_⟩|refine svu ⟨fun u=>?_⟩|(refine svG (fun hg=>?_) (fun hg=>?_)<;>try exact svx)|refine svh (fun hb=>?_) (fun hb=>?_)|refine svb (fun b=>?_)|fail)); refine R2.C (ly _) ?_; (repeat' (first|refine svz ⟨fun b hq=>?_⟩|refine svA ⟨?_⟩|refine svu ⟨fun u=>?_⟩|(refine svG (fun hg=>?_) (fun hg=>?_)<;>try exact svx)|refine svh (fun hb=>?_) (fun hb=>?_)|refine svb (fun b=>?_)|fail)); refine S.store_any ?_ (hl := Nat.le_of_ble_eq_true rfl); (repeat' (first | (refine iR2 ?_; refine r2b ?_; refine R2.one ?_) | (refine iS ?_; refine iN ?_; refine S.build1r ?_) | (refine iS ?_; refine iMu ?_; refine S.mapU ?_) | refine svz ⟨fun b hq=>?_⟩|refine svT ⟨?_⟩|refine svu ⟨fun u=>?_⟩|(refine svG (fun hg=>?_) (fun hg=>?_)<;>try exact svx)|refine svh (fun hb=>?_) (fun hb=>?_)|refine svb (fun b=>?_) | refine sva ?_ | refine sv3 ?_ | fail)); refine ⟨(i + 1, u, (k2, up2, t2, c2), L ++ [⟨(uj : Int), a.x, a.y, a.w % 16 + 1, a.h % 16 + 1, a.mp, a.sh, .ro 4 (a.shape.map RC.enc), px⟩]), ⟨hlt, fun h => absurd h (Nat.succ_ne_zero _), fun _ => mk2 _⟩, ?_, by dsimp only; omega⟩; dsimp only; rw [List.map_append]; exact lee
          · rename_i hb
            rw [show a.sp = [] by unfold WI.sp; rw [hb, if_neg (by decide)]] at oc
            have oc' := fun h => (oc h).args (vs := [.val (.slice none 0 0)]) (by (repeat (first | exact Wk.refl _ | exact Wk.nilr _ | exact Wk.nilm | apply Wk.aggc | apply Wk.tupc | exact Wk.aggn | exact Wk.tupn)); first | done | fail)
            rw [hq ()]; refine R2.C (li _) ?_; (repeat' (first|refine svz ⟨fun b hq=>?_⟩|refine svA ⟨?_⟩|refine svu ⟨fun u=>?_⟩|(refine svG (fun hg=>?_) (fun hg=>?_)<;>try exact svx)|refine svh (fun hb=>?_) (fun hb=>?_)|refine svb (fun b=>?_)|fail)); refine R2.C (lj _) ?_; (repeat' (first|refine svz ⟨fun b hq=>?_⟩|refine svA ⟨?_⟩|refine svu ⟨fun u=>?_⟩|(refine svG (fun hg=>?_) (fun hg=>?_)<;>try exact svx)|refine svh (fun hb=>?_) (fun hb=>?_)|refine svb (fun b=>?_)|fail)); refine R2.C (ad _) ?_; (repeat' (first|refine svz ⟨fun b hq=>?_⟩|refine svA ⟨?_⟩|refine svu ⟨fun u=>?_⟩|(refine svG (fun hg=>?_) (fun hg=>?_)<;>try exact svx)|refine svh (fun hb=>?_) (fun hb=>?_)|refine svb (fun b=>?_)|fail)); refine S.store_any ?_ (hl := Nat.le_of_ble_eq_true rfl); (repeat' (first|refine svz ⟨fun b hq=>?_⟩|refine svA ⟨?_⟩|refine svu ⟨fun u=>?_⟩|(refine svG (fun hg=>?_) (fun hg=>?_)<;>try exact svx)|refine svh (fun hb=>?_) (fun hb=>?_)|refine svb (fun b=>?_)|fail)); refine R2.C (li _) ?_; (repeat' (first|refine svz ⟨fun b hq=>?_⟩|refine svA ⟨?_⟩|refine svu ⟨fun u=>?_⟩|(refine svG (fun hg=>?_) (fun hg=>?_)<;>try exact svx)|refine svh (fun hb=>?_) (fun hb=>?_)|refine svb (fun b=>?_)|fail)); refine R2.C (oc' _) ?_; (repeat' (first|refine svz ⟨fun b hq=>?_⟩|refine svA ⟨?_⟩|refine svu ⟨fun u=>?_⟩|(refine svG (fun hg=>?_) (fun hg=>?_)<;>try exact svx)|refine svh (fun hb=>?_) (fun hb=>?_)|refine svb (fun b=>?_)|fail)); refine R2.C (ps _) ?_; (repeat' (first|refine svz ⟨fun b hq=>?_⟩|refine svA ⟨?_⟩|refine svu ⟨fun u=>?_⟩|(refine svG (fun hg=>?_) (fun hg=>?_)<;>try exact svx)|refine svh (fun hb=>?_) (fun hb=>?_)|refine svb (fun b=>?_)|fail)); refine S.store_any ?_ (hl := Nat.le_of_ble_eq_true rfl); (repeat' (first|refine svz ⟨fun b hq=>?_⟩|refine svA ⟨?_⟩|refine svu ⟨fun u=>?_⟩|(refine svG (fun hg=>?_) (fun hg=>?_)<;>try exact svx)|refine svh (fun hb=>?_) (fun hb=>?_)|refine svb (fun b=>?_)|fail)); refine R2.C (li _) ?_; (repeat' (first|refine svz ⟨fun b hq=>?_⟩|refine svA ⟨?_⟩|refine svu ⟨fun u=>?_⟩|(refine svG (fun hg=>?_) (fun hg=>?_)<;>try exact svx)|refine svh (fun hb=>?_) (fun hb=>?_)|refine svb (fun b=>?_)|fail)); rw [decide_eq_false hi0]; refine R2.C (op _) ?_; (repeat' (first|refine svz ⟨fun b hq=>?_⟩|refine svA ⟨?_⟩|refine svu ⟨fun u=>?_⟩|(refine svG (fun hg=>?_) (fun hg=>?_)<;>try exact svx)|refine svh (fun hb=>?_) (fun hb=>?_)|refine svb (fun b=>?_)|fail)); refine S.store_any ?_ (hl := Nat.le_of_ble_eq_true rfl); (repeat' (first|refine svz ⟨fun b hq=>?_⟩|refine svA ⟨?_⟩|refine svu ⟨fun u=>?_⟩|(refine svG (fun hg=>?_) (fun hg=>?_)<;>try exact svx)|refine svh (fun hb=>?_) (fun hb=>?_)|refine svb (fun b=>?_)|fail)); refine R2.C (li _) ?_; (repeat' (first|refine svz ⟨fun b hq=>?_⟩|refine svA ⟨?_⟩|refine svu ⟨fun u=>?_⟩|(refine svG (fun hg=>?_) (fun hg=>?_)<;>try exact svx)|refine svh (fun hb=>?_) (fun hb=>?_)|refine svb (fun b=>?_)|fail)); refine R2.C (ly _) ?_; (repeat' (first|refine svz ⟨fun b hq=>?_⟩|refine svA ⟨?_⟩|refine svu ⟨fun u=>?_⟩|(refine svG (fun hg=>?_) (fun hg=>?_)<;>try exact svx)|refine svh (fun hb=>?_) (fun hb=>?_)|refine svb (fun b=>?_)|fail)); refine S.store_any ?_ (hl := Nat.le_of_ble_eq_true rfl); (repeat' (first | (refine iR2 ?_; refine r2b ?_; refine R2.one ?_) | (refine iS ?_; refine iN ?_; refine S.build1r ?_) | (refine iS ?_; refine iMu ?_; refine S.mapU ?_) | refine svz ⟨fun b hq=>?_⟩|refine svT ⟨?_⟩|refine svu ⟨fun u=>?_⟩|(refine svG (fun hg=>?_) (fun hg=>?_)<;>try exact svx)|refine svh (fun hb=>?_) (fun hb=>?_)|refine svb (fun b=>?_) | refine sva ?_ | refine sv3 ?_ | fail)); refine ⟨(i + 1, u, (k2, up2, t2, c2), L ++ [⟨(uj : Int), a.x, a.y, a.w % 16 + 1, a.h % 16 + 1, a.mp, a.sh, .val (.slice none 0 0), px⟩]), ⟨hlt, fun h => absurd h (Nat.succ_ne_zero _), fun _ => mk2 _⟩, ?_, by dsimp only; omega⟩; dsimp only; rw [List.map_append]; exact lee
    · (repeat' (first|refine svz ⟨fun b hq=>?_⟩|refine svA ⟨?_⟩|refine svu ⟨fun u=>?_⟩|(refine svG (fun hg=>?_) (fun hg=>?_)<;>try exact svx)|refine svh (fun hb=>?_) (fun hb=>?_)|refine svb (fun b=>?_)|fail))
      have e : i = l.length := by omega
      subst e
      exact fin_r (h' := .own v 9 (L.map RW.enc) 80 :: h) ⟨v, k, up, t, c, L, true, rfl, rfl, fun _ => ⟨hlen, hm (by omega)⟩, fun q => (by cases q)⟩
  · refine ACalls.wk (Q := fun r h' => r = .tup [.agg [.val (.map none), .val (.map none), .val (.map none), .val (.map none), .val (.slice none 0 0)], .val (.bool (false))] ∧ h' = .own (.slice none 0 0) 9 [] 80 :: h) ?_ ?_
    · refine ACalls.intro Tryz.func5 rfl Tryz.ntmps5 Tryz.results5 (Nat.le_of_ble_eq_true rfl) ?_
      refine W.nil_ 9 80 ?_
      (repeat' (first|refine svz ⟨fun b hq=>?_⟩|refine svA ⟨?_⟩|refine svu ⟨fun u=>?_⟩|(refine svG (fun hg=>?_) (fun hg=>?_)<;>try exact svx)|refine svh (fun hb=>?_) (fun hb=>?_)|refine svb (fun b=>?_)|fail))
      all_goals exact fin_r (h' := .own (.slice none 0 0) 9 [] 80 :: h) ⟨rfl, rfl⟩
    · rintro r h' ⟨rfl, rfl⟩
      exact ⟨_, (by (repeat (first | exact Wk.refl _ | exact Wk.nilr _ | exact Wk.nilm | apply Wk.aggc | apply Wk.tupc | exact Wk.aggn | exact Wk.tupn)); first | done | fail), .slice none 0 0, [], [], [], [], [], false, rfl, rfl, fun q => (by cases q), fun _ => .inl hlen⟩
end Go.Proofs.YtfbegifmhgkpjaaGreat
