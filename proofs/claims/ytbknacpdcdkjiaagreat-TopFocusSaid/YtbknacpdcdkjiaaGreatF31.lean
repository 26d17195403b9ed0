/- Plain: what the view has; the windows of TopFocus. No condition. -/
import Derived.Test.YtbknacpdcdkjiaaGreatF7
namespace Go.Proofs.YtbknacpdcdkjiaaGreat
open Go Go.VM
set_option linter.unusedVariables false
set_option linter.unusedSimpArgs false
set_option linter.unusedSectionVars false
set_option maxHeartbeats 4000000
theorem bel_has {k : SVT} {up : UP} (w : TW k up) : ∀ (f : Nat) (id x : Int), hasT up id = true → x ∈ belF (ofS k) f id → hasT up x = true
  | 0, _, _, _, h => by cases h
  | f + 1, id, x, hid, h => by
    unfold belF at h
    rcases List.mem_cons.1 h with rfl | h
    · exact hid
    · obtain ⟨c, h1, h2⟩ := List.mem_flatMap.1 h
      exact bel_has w f c x (w.has_kid h1) h2
theorem bel_nodup {k : SVT} {up : UP} (w : TW k up) : ∀ (f : Nat) (id : Int), (belF (ofS k) f id).Nodup
  | 0, _ => by simp [belF]
  | f + 1, id => by
    unfold belF
    have hK : ∀ p c, c ∈ ofS k p → lkF up c = some p := fun p c => (w.kid p c).1
    rw [List.nodup_cons]
    refine ⟨fun h => ?_, ?_⟩
    · obtain ⟨c, h1, h2⟩ := List.mem_flatMap.1 h
      exact w.kid_above h1 (bel_anc hK f c id h2)
    · have key : ∀ L : List Int, L.Nodup → (∀ c ∈ L, c ∈ ofS k id) → (L.flatMap (belF (ofS k) f)).Nodup := fun L => by
        induction L with
        | nil => intros; simp
        | cons c L ih =>
          intro hn hs
          rw [List.nodup_cons] at hn
          rw [List.flatMap_cons, List.nodup_append]
          refine ⟨bel_nodup w f c, ih hn.2 fun c hc => hs c (List.mem_cons_of_mem _ hc), fun x hx y hy e => ?_⟩
          subst e
          obtain ⟨c', h1, h2⟩ := List.mem_flatMap.1 hy
          have := w.apart (hs c (List.mem_cons_self ..)) (hs c' (List.mem_cons_of_mem _ h1)) (bel_anc hK f c x hx) (bel_anc hK f c' x h2)
          exact hn.1 (this ▸ h1)
      exact key _ (w.kd id) fun c hc => hc
theorem bel_len {k : SVT} {up : UP} (w : TW k up) (f : Nat) : (belF (ofS k) f 1).length ≤ up.length + 1 := by
  have := nodup_le (m := 1 :: up.map (·.1)) (bel_nodup w f 1) fun y hy => by
    have h1 := bel_has w f 1 y (by unfold hasT; simp) hy
    unfold hasT at h1
    rw [Bool.or_eq_true, decide_eq_true_iff] at h1
    rcases h1 with h1 | h1
    · cases e : lkF up y with
      | none => rw [e] at h1; cases h1
      | some p => exact List.mem_cons_of_mem _ (key_lkF e)
    · rw [h1]; exact List.mem_cons_self ..
  simpa using this
section
variable {k : SVT} {up : UP} {t : PW} (Q : PWOk k up t)
structure HG (up : UP) (t : PW) (e : Int × SW) : Prop where
  bx : Bx 0 16 e.2.clip
  x : e.2.x = oX up t e.1
  y : e.2.y = oY up t e.1
  has : hasT up e.1 = true
  ar : ∀ x y, hasR e.2.clip x y = true → ∃ b, lkF t e.1 = some b ∧ hasR (areaB b) (x - oX up t e.1) (y - oY up t e.1) = true
structure HP (up : UP) (t : PW) (id : Int) (pl lf : List RC) : Prop where
  has : hasT up id = true
  bp : Bx 0 16 pl
  bl : Bx 0 16 lf
  sub : ∀ x y, hasR lf x y = true → hasR pl x y = true
  ar : ∀ x y, hasR pl x y = true → ∃ b, lkF t id = some b ∧ hasR (areaB b) (x - oX up t id) (y - oY up t id) = true
include Q in
theorem lp_all {hd : Int → List RC → List RC → List (Int × SW)} {id : Int} {pl : List RC} (hh : ∀ c a l, HP up t c a l → ∀ e ∈ hd c a l, HG up t e) :
    ∀ (ks : List Int) (lf : List RC), (∀ c ∈ ks, c ∈ ofS k id) → HP up t id pl lf → (∀ e ∈ (lpF t (oX up t) (oY up t) hd id pl ks lf).1, HG up t e) ∧ HP up t id pl (lpF t (oX up t) (oY up t) hd id pl ks lf).2
  | [], lf, _, h => ⟨fun e he => (by cases he), h⟩
  | c :: ks, lf, hs, h => by
    have hc := hs c (List.mem_cons_self ..)
    have hs' := fun c hc => hs c (List.mem_cons_of_mem _ hc)
    obtain ⟨b0, hb0⟩ := Q.bt c (Q.w.has_kid hc)
    cases hm : b0.m with
    | false =>
      rw [lp_none hb0 hm]
      exact lp_all hh ks lf hs' h
    | true =>
      rw [lp_some hb0 hm]
      have cz := Q.can_kid hc hb0
      have hA : Bx 0 16 (kidA (oX up t) (oY up t) id b0 pl) := Bx.right cz.can h.bp
      have hB : Bx 0 16 (AndJ (kidA (oX up t) (oY up t) id b0 pl) lf) := .left (fun b => rfl) hA h.bl.can
      have hN : Bx 0 16 (NotJ lf (kidA (oX up t) (oY up t) id b0 pl)) := .left (fun b => rfl) h.bl hA.can
      have ok := Q.o_kid hc hb0
      have h1 : HP up t c (kidA (oX up t) (oY up t) id b0 pl) (AndJ (kidA (oX up t) (oY up t) id b0 pl) lf) := ⟨Q.w.has_kid hc, hA, hB, fun x y hx => by
          rw [has_join hA.can h.bl.can rfl, Bool.and_eq_true] at hx; exact hx.1, fun x y hx => by
          unfold kidA at hx
          rw [has_join cz.can h.bp.can rfl, Bool.and_eq_true, has_shF] at hx
          exact ⟨b0, hb0, by rw [ok.1, ok.2]; exact hx.1⟩⟩
      have h2 : HP up t id pl (NotJ lf (kidA (oX up t) (oY up t) id b0 pl)) := ⟨h.has, h.bp, hN, fun x y hx => by
          rw [has_join h.bl.can hA.can rfl, Bool.and_eq_true] at hx; exact h.sub x y hx.1, h.ar⟩
      have ih := lp_all hh ks _ hs' h2
      refine ⟨fun e he => ?_, ih.2⟩
      rcases List.mem_append.1 he with he | he
      · exact hh c _ _ h1 e he
      · exact ih.1 e he
include Q in
theorem hand_all : ∀ (f : Nat) (id : Int) (pl lf : List RC), HP up t id pl lf → ∀ e ∈ handF t (ofS k) (oX up t) (oY up t) f id pl lf, HG up t e
  | 0, _, _, _, _, e, he => by cases he
  | f + 1, id, pl, lf, h, e, he => by
    unfold handF at he
    have q := lp_all Q (hand_all f) (ofS k id).reverse lf (fun c hc => List.mem_reverse.1 hc) h
    rcases List.mem_append.1 he with he | he
    · exact q.1 e he
    · rw [List.mem_singleton.1 he]
      exact ⟨q.2.bl, rfl, rfl, q.2.has, fun x y hx => q.2.ar x y (q.2.sub x y hx)⟩
include Q in
theorem PWOk.hp : HP up t 1 (areaB (bxF t 1)) (areaB (bxF t 1)) := by
  obtain ⟨rx, ry, hr⟩ := Q.root
  have hb : bxF t 1 = rootB rx ry := by unfold bxF; rw [hr]; rfl
  have ok := (Q.ok 1 _ hr).area
  obtain ⟨o1, o2⟩ := Q.o_root
  rw [hb]
  exact ⟨Q.has1, ok, ok, fun x y h => h, fun x y h => ⟨_, hr, by rw [o1, o2, Int.sub_zero, Int.sub_zero]; exact h⟩⟩
include Q in
theorem PWOk.vw {id : Int} {s : SW} (h : lkF (vwF k up t) id = some s) : HG up t (id, s) := hand_all Q _ _ _ _ Q.hp _ (lkF_mem h)
include Q in
theorem PWOk.vok : VOk (vwF k up t) := fun id s h => by
  have q := Q.vw h
  have := Q.o_bd (show hasT up id = true from q.has)
  have h1 := q.x; have h2 := q.y
  dsimp only at h1 h2
  exact ⟨q.bx, by omega, by omega⟩
end
def idT (n : Nat) : Int := if n = 0 then 1 else 1048576 + (n : Int)
theorem idT_pos {n : Nat} (h : n ≠ 0) : idT n = 1048576 + (n : Int) := by unfold idT; rw [if_neg h]
theorem idT_inj {n m : Nat} (h : idT n = idT m) : n = m := by
  unfold idT at h
  split at h <;> split at h <;> omega
theorem idT_bd {n : Nat} (h : n ≤ 1000) : 1 ≤ idT n ∧ idT n ≤ 4294967295 := by unfold idT; split <;> omega
theorem idT_ic {n : Nat} (h : n ≤ 1000) : icF (idT n) = 0 := by
  unfold icF
  have hb := idT_bd h
  have h0 : idT n ≠ 0 := by unfold idT; split <;> omega
  rw [if_neg h0]
  by_cases hn : n = 0
  · subst hn
    rw [show idT 0 = 1 from rfl, show cliF 1 = (0, true) from rfl, if_pos rfl]
  · have h1 : idT n ≠ 1 := by rw [idT_pos hn]; omega
    have h2 : idT n / 1048576 = 1 := by rw [idT_pos hn]; omega
    have h3 : idT n % 1048576 = n := by rw [idT_pos hn]; omega
    have hc : cliF (idT n) = (1, true) := by
      unfold cliF
      rw [if_neg h1, h2, h3, if_neg (by unfold isC; simp; omega)]
    rw [hc, if_pos rfl]
theorem idT_0 {j : Nat} (h : j ≠ 0) : idT j ≠ 1 := by rw [idT_pos h]; omega
structure KW (n : Nat) (k : SVT) (up : UP) (t : PW) : Prop where
  tw : TW k up
  ul : up.length = n
  has : ∀ id, hasT up id = true → ∃ j, j ≤ n ∧ id = idT j
  has' : ∀ j, j ≤ n → hasT up (idT j) = true
  tb : ∀ j, j ≤ n → ∃ b, lkF t (idT j) = some b
  tok : ∀ id b, lkF t id = some b → b.Ok
  tl : t.length ≤ n + 1
  tne : t ≠ []
  root : ∃ x y, lkF t 1 = some (rootB x y)
theorem KW.start {x y : Int} (hx : 1 ≤ x ∧ x ≤ 16) (hy : 1 ≤ y ∧ y ≤ 16) : KW 0 [] [] [(1, rootB x y)] := by
  have hj : ∀ j, j ≤ 0 → j = 0 := fun j h => by omega
  have hb : (rootB x y).Ok := ⟨by unfold rootB; dsimp only; omega, by unfold rootB; dsimp only; omega, by unfold rootB; dsimp only; omega, by unfold rootB; dsimp only; omega, by unfold rootB; dsimp only; omega, Bx.nil _ _, fun _ => rfl⟩
  refine ⟨TW.start, rfl, fun id h => ⟨0, by omega, ?_⟩, fun j h => ?_, fun j h => ?_, fun id b h => ?_, by simp, by simp, ⟨x, y, rfl⟩⟩
  · unfold hasT at h; simpa [lkF, idT] using h
  · rw [hj j h]; rfl
  · rw [hj j h]; exact ⟨_, rfl⟩
  · have h1 := lkF_mem h
    rw [List.mem_singleton] at h1
    injection h1 with _ h2
    rw [h2]; exact hb
section
variable {n : Nat} {k : SVT} {up : UP} {t : PW} (m : KW n k up t)
include m
theorem KW.no {j : Nat} (h : n < j) : lkF up (idT j) = none ∧ hasT up (idT j) = false := by
  have hh : hasT up (idT j) = false := by
    cases e : hasT up (idT j) with
    | false => rfl
    | true =>
      obtain ⟨i, h1, h2⟩ := m.has _ e
      have := idT_inj h2
      omega
  refine ⟨?_, hh⟩
  unfold hasT at hh
  rw [Bool.or_eq_false_iff] at hh
  cases e : lkF up (idT j) with
  | none => rfl
  | some x => rw [e] at hh; cases hh.1
theorem KW.succ {u : Nat} (hu : u ≤ n) {b : BW} (hb : b.Ok) : KW (n + 1) (putF k (idT u) (ofS k (idT u) ++ [idT (n + 1)])) (putF up (idT (n + 1)) (idT u)) (putF t (idT (n + 1)) b) := by
  have hno := m.no (Nat.lt_succ_self n)
  have hne : ∀ {j}, j ≤ n → idT j ≠ idT (n + 1) := fun h e => by have := idT_inj e; omega
  have h1 : idT (n + 1) ≠ 1 := idT_0 (by omega)
  refine ⟨m.tw.add h1 hno.1 (m.has' u hu), ?_, fun id h => ?_, fun j h => ?_, fun j h => ?_, fun id b' h => ?_, ?_, ?_, ?_⟩
  · unfold putF; rw [hno.1]; simp [m.ul]
  · unfold hasT at h
    rw [lk_put] at h
    by_cases e : id = idT (n + 1)
    · exact ⟨n + 1, Nat.le_refl _, e⟩
    · rw [if_neg e] at h
      obtain ⟨j, h2, h3⟩ := m.has id h
      exact ⟨j, by omega, h3⟩
  · unfold hasT
    rw [lk_put]
    by_cases e : j = n + 1
    · rw [e, if_pos rfl]; rfl
    · rw [if_neg (hne (by omega))]; exact m.has' j (by omega)
  · rw [lk_put]
    by_cases e : j = n + 1
    · rw [e, if_pos rfl]; exact ⟨_, rfl⟩
    · rw [if_neg (hne (by omega))]; exact m.tb j (by omega)
  · rw [lk_put] at h
    split at h
    · obtain rfl := Option.some.inj h; exact hb
    · exact m.tok id b' h
  · have := putF_len t (idT (n + 1)) b; have := m.tl; omega
  · intro e
    have := lk_put t (idT (n + 1)) (idT (n + 1)) b
    rw [e, if_pos rfl] at this; cases this
  · obtain ⟨x, y, h⟩ := m.root
    exact ⟨x, y, by rw [lk_put, if_neg (Ne.symm h1)]; exact h⟩
theorem KW.pw (hn : n ≤ 60) : PWOk k up t := by
  refine ⟨m.tw, fun id h => ?_, m.tok, m.root, by have := m.ul; omega⟩
  obtain ⟨j, h1, rfl⟩ := m.has id h
  exact m.tb j h1
end
end Go.Proofs.YtbknacpdcdkjiaaGreat
