import Derived.Test.YtbknacpdcdkjiaaGreatF7
import Derived.Test.YtbknacpdcdkjiaaGreatZ5
import Derived.Test.YtbknacpdcdkjiaaGreatVM29
import Derived.Test.YtbknacpdcdkjiaaGreatB7
import Derived.Test.YtbknacpdcdkjiaaGreatU4
/- Plain: what the view has; the windows of TopFocus. No condition. -/
namespace Go.Proofs.YtbknacpdcdkjiaaGreat
open Go Go.VM
set_option maxRecDepth 100000
set_option linter.unusedVariables false
set_option linter.unusedSimpArgs false
set_option linter.unusedSectionVars false
set_option maxHeartbeats 4000000
def lookF (k : SVT) (up : UP) (t : PW) (x y : Int) : Int := topF t (ofS k) (oX up t) (oY up t) x y (up.length + 1) 1
theorem lk_of_mem {α : Type} : ∀ {t : List (Int × α)} {i : Int} {a : α}, (t.map (·.1)).Nodup → (i, a) ∈ t → lkF t i = some a
  | [], _, _, _, h => by cases h
  | (j, c) :: t, i, a, hn, h => by
    rw [List.map_cons, List.nodup_cons] at hn
    unfold lkF
    rw [List.find?_cons]
    rcases List.mem_cons.1 h with e | h
    · injection e with e1 e2
      subst e1; subst e2
      simp
    · have : j ≠ i := fun e => hn.1 (by rw [e]; exact List.mem_map.2 ⟨_, h, rfl⟩)
      rw [show decide (((j, c) : Int × α).1 = i) = false from decide_eq_false this]
      exact lk_of_mem hn.2 h
theorem bel_has {k : SVT} {up : UP} (w : TW k up) : ∀ (f : Nat) (id x : Int), hasT up id = true → x ∈ belF (ofS k) f id → hasT up x = true
  | 0, _, _, _, h => by cases h
  | f + 1, id, x, hid, h => by
    unfold belF at h
    rcases List.mem_cons.1 h with rfl | h
    · exact hid
    · obtain ⟨c, h1, h2⟩ := List.mem_flatMap.1 h
      exact bel_has w f c x (w.has_kid h1) h2
theorem bel_nodup {k : SVT} {up : UP} (w : TW k up) : ∀ (f : Nat) (id : Int), (belF (ofS k) f id).Nodup
  | 0, _ => by simp [belF]
  | f + 1, id => by
    unfold belF
    have hK : ∀ p c, c ∈ ofS k p → lkF up c = some p := fun p c => (w.kid p c).1
    rw [List.nodup_cons]
    refine ⟨fun h => ?_, ?_⟩
    · obtain ⟨c, h1, h2⟩ := List.mem_flatMap.1 h
      exact w.kid_above h1 (bel_anc hK f c id h2)
    · have key : ∀ L : List Int, L.Nodup → (∀ c ∈ L, c ∈ ofS k id) → (L.flatMap (belF (ofS k) f)).Nodup := fun L => by
        induction L with
        | nil => intros; simp
        | cons c L ih =>
          intro hn hs
          rw [List.nodup_cons] at hn
          rw [List.flatMap_cons, List.nodup_append]
          refine ⟨bel_nodup w f c, ih hn.2 fun c hc => hs c (List.mem_cons_of_mem _ hc), fun x hx y hy e => ?_⟩
          subst e
          obtain ⟨c', h1, h2⟩ := List.mem_flatMap.1 hy
          have := w.apart (hs c (List.mem_cons_self ..)) (hs c' (List.mem_cons_of_mem _ h1)) (bel_anc hK f c x hx) (bel_anc hK f c' x h2)
          exact hn.1 (this ▸ h1)
      exact key _ (w.kd id) fun c hc => hc
theorem bel_len {k : SVT} {up : UP} (w : TW k up) (f : Nat) : (belF (ofS k) f 1).length ≤ up.length + 1 := by
  have := nodup_le (m := 1 :: up.map (·.1)) (bel_nodup w f 1) fun y hy => by
    have h1 := bel_has w f 1 y (by unfold hasT; simp) hy
    unfold hasT at h1
    rw [Bool.or_eq_true, decide_eq_true_iff] at h1
    rcases h1 with h1 | h1
    · cases e : lkF up y with
      | none => rw [e] at h1; cases h1
      | some p => exact List.mem_cons_of_mem _ (key_lkF e)
    · rw [h1]; exact List.mem_cons_self ..
  simpa using this
theorem top_bel {k : SVT} {up : UP} (w : TW k up) {bx : PW} {ox oy : Int → Int} {x y : Int} : ∀ (f : Nat) (id : Int), rkF up id < f → topF bx (ofS k) ox oy x y f id ∈ belF (ofS k) f id
  | 0, _, h => absurd h (Nat.not_lt_zero _)
  | f + 1, id, h => by
    unfold topF belF
    cases e : (ofS k id).reverse.find? (inW bx ox oy id x y) with
    | none => exact List.mem_cons_self ..
    | some c =>
      have hc : c ∈ ofS k id := List.mem_reverse.1 (List.mem_of_find?_eq_some e)
      exact List.mem_cons_of_mem _ (List.mem_flatMap.2 ⟨c, hc, top_bel w f c (by have := w.rank hc; unfold rkF at h ⊢; omega)⟩)
section
variable {k : SVT} {up : UP} {t : PW} (Q : PWOk k up t)
structure HG (up : UP) (t : PW) (e : Int × SW) : Prop where
  bx : Bx 0 16 e.2.clip
  x : e.2.x = oX up t e.1
  y : e.2.y = oY up t e.1
  has : hasT up e.1 = true
  ar : ∀ x y, hasR e.2.clip x y = true → ∃ b, lkF t e.1 = some b ∧ hasR (areaB b) (x - oX up t e.1) (y - oY up t e.1) = true
structure HP (up : UP) (t : PW) (id : Int) (pl lf : List RC) : Prop where
  has : hasT up id = true
  bp : Bx 0 16 pl
  bl : Bx 0 16 lf
  sub : ∀ x y, hasR lf x y = true → hasR pl x y = true
  ar : ∀ x y, hasR pl x y = true → ∃ b, lkF t id = some b ∧ hasR (areaB b) (x - oX up t id) (y - oY up t id) = true
include Q in
theorem lp_all {hd : Int → List RC → List RC → List (Int × SW)} {id : Int} {pl : List RC} (hh : ∀ c a l, HP up t c a l → ∀ e ∈ hd c a l, HG up t e) :
    ∀ (ks : List Int) (lf : List RC), (∀ c ∈ ks, c ∈ ofS k id) → HP up t id pl lf → (∀ e ∈ (lpF t (oX up t) (oY up t) hd id pl ks lf).1, HG up t e) ∧ HP up t id pl (lpF t (oX up t) (oY up t) hd id pl ks lf).2
  | [], lf, _, h => ⟨fun e he => (by cases he), h⟩
  | c :: ks, lf, hs, h => by
    have hc := hs c (List.mem_cons_self ..)
    have hs' := fun c hc => hs c (List.mem_cons_of_mem _ hc)
    obtain ⟨b0, hb0⟩ := Q.bt c (Q.w.has_kid hc)
    cases hm : b0.m with
    | false =>
      rw [lp_none hb0 hm]
      exact lp_all hh ks lf hs' h
    | true =>
      rw [lp_some hb0 hm]
      have cz := Q.can_kid hc hb0
      have hA : Bx 0 16 (kidA (oX up t) (oY up t) id b0 pl) := Bx.right cz.can h.bp
      have hB : Bx 0 16 (AndJ (kidA (oX up t) (oY up t) id b0 pl) lf) := .left (fun b => rfl) hA h.bl.can
      have hN : Bx 0 16 (NotJ lf (kidA (oX up t) (oY up t) id b0 pl)) := .left (fun b => rfl) h.bl hA.can
      have ok := Q.o_kid hc hb0
      have h1 : HP up t c (kidA (oX up t) (oY up t) id b0 pl) (AndJ (kidA (oX up t) (oY up t) id b0 pl) lf) := ⟨Q.w.has_kid hc, hA, hB, fun x y hx => by
          rw [has_join hA.can h.bl.can rfl, Bool.and_eq_true] at hx; exact hx.1, fun x y hx => by
          unfold kidA at hx
          rw [has_join cz.can h.bp.can rfl, Bool.and_eq_true, has_shF] at hx
          exact ⟨b0, hb0, by rw [ok.1, ok.2]; exact hx.1⟩⟩
      have h2 : HP up t id pl (NotJ lf (kidA (oX up t) (oY up t) id b0 pl)) := ⟨h.has, h.bp, hN, fun x y hx => by
          rw [has_join h.bl.can hA.can rfl, Bool.and_eq_true] at hx; exact h.sub x y hx.1, h.ar⟩
      have ih := lp_all hh ks _ hs' h2
      refine ⟨fun e he => ?_, ih.2⟩
      rcases List.mem_append.1 he with he | he
      · exact hh c _ _ h1 e he
      · exact ih.1 e he
include Q in
theorem hand_all : ∀ (f : Nat) (id : Int) (pl lf : List RC), HP up t id pl lf → ∀ e ∈ handF t (ofS k) (oX up t) (oY up t) f id pl lf, HG up t e
  | 0, _, _, _, _, e, he => by cases he
  | f + 1, id, pl, lf, h, e, he => by
    unfold handF at he
    have q := lp_all Q (hand_all f) (ofS k id).reverse lf (fun c hc => List.mem_reverse.1 hc) h
    rcases List.mem_append.1 he with he | he
    · exact q.1 e he
    · rw [List.mem_singleton.1 he]
      exact ⟨q.2.bl, rfl, rfl, q.2.has, fun x y hx => q.2.ar x y (q.2.sub x y hx)⟩
include Q in
theorem PWOk.hp : HP up t 1 (areaB (bxF t 1)) (areaB (bxF t 1)) := by
  obtain ⟨rx, ry, hr⟩ := Q.root
  have hb : bxF t 1 = rootB rx ry := by unfold bxF; rw [hr]; rfl
  have ok := (Q.ok 1 _ hr).area
  obtain ⟨o1, o2⟩ := Q.o_root
  rw [hb]
  exact ⟨Q.has1, ok, ok, fun x y h => h, fun x y h => ⟨_, hr, by rw [o1, o2, Int.sub_zero, Int.sub_zero]; exact h⟩⟩
include Q in
theorem PWOk.vw {id : Int} {s : SW} (h : lkF (vwF k up t) id = some s) : HG up t (id, s) := hand_all Q _ _ _ _ Q.hp _ (lkF_mem h)
include Q in
theorem PWOk.vok : VOk (vwF k up t) := fun id s h => by
  have q := Q.vw h
  have := Q.o_bd (show hasT up id = true from q.has)
  have h1 := q.x; have h2 := q.y
  dsimp only at h1 h2
  exact ⟨q.bx, by omega, by omega⟩
include Q in
theorem PWOk.onP {w h : Int} (hr : lkF t 1 = some (rootB w h)) {x y : Int} (hx : 0 ≤ x ∧ x < w) (hy : 0 ≤ y ∧ y < h) :
    hasR (areaB (bxF t 1)) x y = true ∧ (∀ id s, lkF (vwF k up t) id = some s → hasR s.clip x y = true → id = lookF k up t x y) ∧ ∃ s, lkF (vwF k up t) (lookF k up t x y) = some s ∧ hasR s.clip x y = true := by
  have hb : bxF t 1 = rootB w h := by unfold bxF; rw [hr]; rfl
  have ok := Q.ok 1 _ hr
  have hA : hasR (areaB (bxF t 1)) x y = true := by
    rw [hb, ok.area_has]
    show ((!false || hasR [] x y) && decide ((0 ≤ x ∧ x < w) ∧ 0 ≤ y ∧ y < h)) = true
    rw [decide_eq_true ⟨hx, hy⟩]; rfl
  have hc : Can (areaB (bxF t 1)) := Q.hp.bp.can
  have := hand_on (bx := t) (K := ofS k) (ox := oX up t) (oy := oY up t) (x := x) (y := y) (rkF up) (fun id kid hk => Q.w.rank hk) (fun id kid b hk hb => (Q.can_kid hk hb).can) (up.length + 1) 1 _ _ (by unfold rkF; omega) hc hc hA hA
  refine ⟨hA, fun id s h1 h2 => this.1 (id, s) (lkF_mem h1) h2, ?_⟩
  obtain ⟨s, h1, h2⟩ := this.2
  exact ⟨s, lk_of_mem (hand_nodup Q.w _ _ _ _) h1, h2⟩
end
def idT (n : Nat) : Int := if n = 0 then 1 else 1048576 + (n : Int)
theorem idT_pos {n : Nat} (h : n ≠ 0) : idT n = 1048576 + (n : Int) := by unfold idT; rw [if_neg h]
theorem idT_inj {n m : Nat} (h : idT n = idT m) : n = m := by
  unfold idT at h
  split at h <;> split at h <;> omega
theorem idT_bd {n : Nat} (h : n ≤ 1000) : 1 ≤ idT n ∧ idT n ≤ 4294967295 := by unfold idT; split <;> omega
theorem idT_ic {n : Nat} (h : n ≤ 1000) : icF (idT n) = 0 := by
  unfold icF
  have hb := idT_bd h
  have h0 : idT n ≠ 0 := by unfold idT; split <;> omega
  rw [if_neg h0]
  by_cases hn : n = 0
  · subst hn
    rw [show idT 0 = 1 from rfl, show cliF 1 = (0, true) from rfl, if_pos rfl]
  · have h1 : idT n ≠ 1 := by rw [idT_pos hn]; omega
    have h2 : idT n / 1048576 = 1 := by rw [idT_pos hn]; omega
    have h3 : idT n % 1048576 = n := by rw [idT_pos hn]; omega
    have hc : cliF (idT n) = (1, true) := by
      unfold cliF
      rw [if_neg h1, h2, h3, if_neg (by unfold isC; simp; omega)]
    rw [hc, if_pos rfl]
theorem idT_0 {j : Nat} (h : j ≠ 0) : idT j ≠ 1 := by rw [idT_pos h]; omega
structure KW (n : Nat) (k : SVT) (up : UP) (t : PW) : Prop where
  tw : TW k up
  ul : up.length = n
  has : ∀ id, hasT up id = true → ∃ j, j ≤ n ∧ id = idT j
  has' : ∀ j, j ≤ n → hasT up (idT j) = true
  tb : ∀ j, j ≤ n → ∃ b, lkF t (idT j) = some b
  tok : ∀ id b, lkF t id = some b → b.Ok
  tl : t.length ≤ n + 1
  tne : t ≠ []
  root : ∃ x y, lkF t 1 = some (rootB x y)
theorem KW.start {x y : Int} (hx : 1 ≤ x ∧ x ≤ 16) (hy : 1 ≤ y ∧ y ≤ 16) : KW 0 [] [] [(1, rootB x y)] := by
  have hj : ∀ j, j ≤ 0 → j = 0 := fun j h => by omega
  have hb : (rootB x y).Ok := ⟨by unfold rootB; dsimp only; omega, by unfold rootB; dsimp only; omega, by unfold rootB; dsimp only; omega, by unfold rootB; dsimp only; omega, by unfold rootB; dsimp only; omega, Bx.nil _ _, fun _ => rfl⟩
  refine ⟨TW.start, rfl, fun id h => ⟨0, by omega, ?_⟩, fun j h => ?_, fun j h => ?_, fun id b h => ?_, by simp, by simp, ⟨x, y, rfl⟩⟩
  · unfold hasT at h; simpa [lkF, idT] using h
  · rw [hj j h]; rfl
  · rw [hj j h]; exact ⟨_, rfl⟩
  · have h1 := lkF_mem h
    rw [List.mem_singleton] at h1
    injection h1 with _ h2
    rw [h2]; exact hb
section
variable {n : Nat} {k : SVT} {up : UP} {t : PW} (m : KW n k up t)
include m
theorem KW.no {j : Nat} (h : n < j) : lkF up (idT j) = none ∧ hasT up (idT j) = false := by
  have hh : hasT up (idT j) = false := by
    cases e : hasT up (idT j) with
    | false => rfl
    | true =>
      obtain ⟨i, h1, h2⟩ := m.has _ e
      have := idT_inj h2
      omega
  refine ⟨?_, hh⟩
  unfold hasT at hh
  rw [Bool.or_eq_false_iff] at hh
  cases e : lkF up (idT j) with
  | none => rfl
  | some x => rw [e] at hh; cases hh.1
theorem KW.succ {u : Nat} (hu : u ≤ n) {b : BW} (hb : b.Ok) : KW (n + 1) (putF k (idT u) (ofS k (idT u) ++ [idT (n + 1)])) (putF up (idT (n + 1)) (idT u)) (putF t (idT (n + 1)) b) := by
  have hno := m.no (Nat.lt_succ_self n)
  have hne : ∀ {j}, j ≤ n → idT j ≠ idT (n + 1) := fun h e => by have := idT_inj e; omega
  have h1 : idT (n + 1) ≠ 1 := idT_0 (by omega)
  refine ⟨m.tw.add h1 hno.1 (m.has' u hu), ?_, fun id h => ?_, fun j h => ?_, fun j h => ?_, fun id b' h => ?_, ?_, ?_, ?_⟩
  · unfold putF; rw [hno.1]; simp [m.ul]
  · unfold hasT at h
    rw [lk_put] at h
    by_cases e : id = idT (n + 1)
    · exact ⟨n + 1, Nat.le_refl _, e⟩
    · rw [if_neg e] at h
      obtain ⟨j, h2, h3⟩ := m.has id h
      exact ⟨j, by omega, h3⟩
  · unfold hasT
    rw [lk_put]
    by_cases e : j = n + 1
    · rw [e, if_pos rfl]; rfl
    · rw [if_neg (hne (by omega))]; exact m.has' j (by omega)
  · rw [lk_put]
    by_cases e : j = n + 1
    · rw [e, if_pos rfl]; exact ⟨_, rfl⟩
    · rw [if_neg (hne (by omega))]; exact m.tb j (by omega)
  · rw [lk_put] at h
    split at h
    · obtain rfl := Option.some.inj h; exact hb
    · exact m.tok id b' h
  · have := putF_len t (idT (n + 1)) b; have := m.tl; omega
  · intro e
    have := lk_put t (idT (n + 1)) (idT (n + 1)) b
    rw [e, if_pos rfl] at this; cases this
  · obtain ⟨x, y, h⟩ := m.root
    exact ⟨x, y, by rw [lk_put, if_neg (Ne.symm h1)]; exact h⟩
theorem KW.pw (hn : n ≤ 60) : PWOk k up t := by
  refine ⟨m.tw, fun id h => ?_, m.tok, m.root, by have := m.ul; omega⟩
  obtain ⟨j, h1, rfl⟩ := m.has id h
  exact m.tb j h1
end
end Go.Proofs.YtbknacpdcdkjiaaGreat

/- Structs of numbers and bools: == and !=. No condition. -/
namespace Go.VM
open Go
set_option maxRecDepth 100000
set_option linter.unusedVariables false
set_option linter.unusedSimpArgs false
inductive Scl where
  | i (k : IntKind) (a b : Int)
  | b (a b : Bool)
def Scl.l : Scl → Value
  | .i k x _ => .int k x
  | .b x _ => .bool x
def Scl.r : Scl → Value
  | .i k _ z => .int k z
  | .b _ z => .bool z
def Scl.eq : Scl → Bool
  | .i _ x z => x == z
  | .b x z => x == z
def Scl.isI : Scl → Bool
  | .i _ _ _ => true
  | .b _ _ => false
def flatQ (P : Program) : Nat → List Field → List Bool → Bool
  | _, [], [] => true
  | i, f :: fs, s :: ss => !(f.name == "_") && (Nat.beq f.offset i && ((match valQ P f.type with | some (false, _) => true | _ => false) && ((match P.underlying f.type with | some (.int _) => s | some .bool => !s | _ => false) && flatQ P (i + 1) fs ss)))
  | _, _, _ => false
theorem eqQ {P : Program} {w : World} {d : Nat} : ∀ (fs : List Field) (L : List Scl) (i : Nat) (pre pre' : List Value), pre.length = i → pre'.length = i → flatQ P i fs (L.map Scl.isI) = true →
    (Op.eqFields (d + 1) (pre ++ L.map Scl.l).toArray (pre' ++ L.map Scl.r).toArray fs).run P w = .ok (L.all Scl.eq) w
  | [], [], i, pre, pre', _, _, _ => by simp [Op.eqFields]
  | [], _ :: _, i, pre, pre', _, _, hf => by cases hf
  | _ :: _, [], i, pre, pre', _, _, hf => by cases hf
  | f :: fs, s :: L, i, pre, pre', h1, h2, hf => by
    rw [List.map_cons] at hf
    unfold flatQ at hf
    simp only [Bool.and_eq_true, Bool.not_eq_true', beq_eq_false_iff_ne, ne_eq] at hf
    obtain ⟨f1, f2, f3, f4, f5⟩ := hf
    have f2 := Nat.eq_of_beq_eq_true f2
    obtain ⟨n, hv⟩ : ∃ n, valQ P f.type = some (false, n) := by
      split at f3
      · exact ⟨_, by assumption⟩
      · cases f3
    have hn := (valQ_spec hv).2.2 rfl
    subst hn
    have p1 : (part f.type (pre ++ (s :: L).map Scl.l).toArray f.offset).run P w = .ok s.l w := by
      rw [run_part hv (by simp [f2, h1]), f2]
      simp [List.drop_append, ← h1, mk]
    have p2 : (part f.type (pre' ++ (s :: L).map Scl.r).toArray f.offset).run P w = .ok s.r w := by
      rw [run_part hv (by simp [f2, h2]), f2]
      simp [List.drop_append, ← h2, mk]
    have ih := eqQ (P := P) (w := w) (d := d) fs L (i + 1) (pre ++ [s.l]) (pre' ++ [s.r]) (by simp [h1]) (by simp [h2]) f5
    simp only [List.append_assoc, List.singleton_append] at ih
    have he : (Op.equalIn (d + 1) f.type s.l s.r).run P w = .ok s.eq w := by
      cases s with
      | i k a b =>
        obtain ⟨k', hk⟩ : ∃ k', P.underlying f.type = some (.int k') := by
          split at f4
          · exact ⟨_, by assumption⟩
          · cases f4
          · cases f4
        exact run_equalIn_int (P := P) w d f.type k k' a b hk
      | b a b =>
        have hk : P.underlying f.type = some .bool := by
          split at f4
          · cases f4
          · assumption
          · cases f4
        exact run_equalIn_bool' (P := P) w d f.type a b hk
    unfold Op.eqFields
    rw [if_pos f1]
    simp only [Sem.run_bind, p1, p2, Result.andThen_ok, he]
    rw [List.all_cons]
    cases hs : s.eq with
    | true => simp [ih]
    | false => simp
class TEqS (P : Program) (t : Nat) (sh : outParam (List Bool)) : Prop where
  h : P.underlying t = some (.struct (P.fieldsOf t))
  s : P.stoodInHeld t = false
  g : P.eqGuardType P.depth t = false
  f : flatQ P 0 (P.fieldsOf t).toList sh = true
inductive IEqS : List AV → List AV → List Scl → Prop
  | nil : IEqS [] [] []
  | i {k : IntKind} {a b : Int} {x y : List AV} {L : List Scl} (h : IEqS x y L) : IEqS (.val (.int k a) :: x) (.val (.int k b) :: y) (.i k a b :: L)
  | b {a b : Bool} {x y : List AV} {L : List Scl} (h : IEqS x y L) : IEqS (.val (.bool a) :: x) (.val (.bool b) :: y) (.b a b :: L)
theorem IEqS.rel {m : Ghost} {x y : List AV} {L : List Scl} (h : IEqS x y L) : ∀ {cs ds : List Value}, RelL m x cs → RelL m y ds → cs = L.map Scl.l ∧ ds = L.map Scl.r := by
  induction h with
  | nil => intro cs ds h1 h2; simp only [RelL] at h1 h2; subst h1; subst h2; exact ⟨rfl, rfl⟩
  | i h ih =>
    intro cs ds h1 h2
    simp only [RelL, Rel] at h1 h2
    obtain ⟨c, r, rfl, ⟨rfl, _⟩, h1⟩ := h1
    obtain ⟨c', r', rfl, ⟨rfl, _⟩, h2⟩ := h2
    obtain ⟨rfl, rfl⟩ := ih h1 h2
    exact ⟨rfl, rfl⟩
  | b h ih =>
    intro cs ds h1 h2
    simp only [RelL, Rel] at h1 h2
    obtain ⟨c, r, rfl, ⟨rfl, _⟩, h1⟩ := h1
    obtain ⟨c', r', rfl, ⟨rfl, _⟩, h2⟩ := h2
    obtain ⟨rfl, rfl⟩ := ih h1 h2
    exact ⟨rfl, rfl⟩
section
variable {P : Program} {d : Option Nat} {ty : Nat} {pos : String} {af : Array Edge} {gd : Option (Nat × Bool)} {tm : List (Nat × AV)} {h : Heap} {x y : Operand} {xt yt : Nat} {l l' : List AV} {L : List Scl} {sh : List Bool} {p : Bool}
theorem eqS_key [ht : TEqS P xt sh] {m : Ghost} {cs ds : Array Value} (hx : RelL m l cs.toList) (hy : RelL m l' ds.toList) (he : IEqS l l' L) (hn : L.map Scl.isI = sh) (hp : L.all Scl.eq = p) (w : World) : (Op.equalIn (9999 + 1) xt (.agg cs) (.agg ds)).run P w = .ok p w := by
  obtain ⟨e1, e2⟩ := he.rel hx hy
  have key := eqQ (P := P) (w := w) (d := 9998) (P.fieldsOf xt).toList L 0 [] [] rfl rfl (by rw [hn]; exact ht.f)
  rw [List.nil_append, List.nil_append, ← e1, ← e2, hp] at key
  simp only [Array.toArray_toList] at key
  have k2 := run_equalIn_struct (P := P) w 9999 xt cs ds ht.h ht.s
  rw [key] at k2
  exact k2
theorem pur_neqS [ht : TEqS P xt sh] (hx : evalA tm x = some (.agg l)) (hy : evalA tm y = some (.agg l')) (he : IEqS l l' L) (hn : L.map Scl.isI = sh) (hp : L.all Scl.eq = p) : PurV P ⟨d, .binOp .neq xt x y yt, ty, pos, af, gd⟩ tm h (.val (.bool (!p))) := fun m a w0 h1 h2 h3 => by
  have hx := h1.eval hx
  have hy := h1.eval hy
  simp only [Rel] at hx hy
  obtain ⟨cs, hx, hxr⟩ := hx
  obtain ⟨ds, hy, hyr⟩ := hy
  refine ⟨.bool (!p), by simp [Rel]; rfl, fun w => ?_⟩
  have k2 := eqS_key (ht := ht) hxr hyr he hn hp w
  have k3 := run_neq_struct (P := P) w xt cs ds
  rw [k2] at k3
  have k1 := run_eqGuard_agg (P := P) w .neq xt x y cs ds ht.g
  simp [execOp, hx, hy, k1, k3]
end
end Go.VM

/- Devices that can be grabbed, and frozen. No condition. -/
namespace Go.Proofs.YtbknacpdcdkjiaaGreat
open Go Go.VM
set_option maxRecDepth 100000
attribute [local irreducible] PurV Pur Step RL W D ACalls Then InBlock Fini
set_option linter.unusedVariables false
set_option linter.unusedSimpArgs false
set_option maxHeartbeats 20000000
structure IN where
  (k c x y t n : Int)
def IN.z : IN := ⟨0, 0, 0, 0, 0, 0⟩
def IN.enc (i : IN) : AV := .agg [.val (.int .i64 (i.k)), .val (.int .i64 (i.c)), .val (.int .i64 (i.x)), .val (.int .i64 (i.y)), .val (.int .u32 (i.t)), .val (.int .i64 (i.n))]
theorem IN.enc_eq (i : IN) : i.enc = .agg [.val (.int .i64 ((i).k)), .val (.int .i64 ((i).c)), .val (.int .i64 ((i).x)), .val (.int .i64 ((i).y)), .val (.int .u32 ((i).t)), .val (.int .i64 ((i).n))] := rfl
structure AC where
  (cl w : Int) (ow : Bool) (mask : Int) (au pa : Bool) (code time : Int)
def AC.z : AC := ⟨0, 0, false, 0, false, false, 0, 0⟩
def AC.enc (a : AC) : AV := .agg [.val (.int .i64 (a.cl)), .val (.int .u32 (a.w)), .val (.bool (a.ow)), .val (.int .i64 (a.mask)), .val (.bool (a.au)), .val (.bool (a.pa)), .val (.int .i64 (a.code)), .val (.int .u32 (a.time))]
structure DV where
  (a : AC) (g f s : Bool) (held : IN) (hs : Bool) (ws : List IN)
def DV.enc (d : DV) : AV := .agg [.val (.int .i64 (d.a.cl)), .val (.int .u32 (d.a.w)), .val (.bool (d.a.ow)), .val (.int .i64 (d.a.mask)), .val (.bool (d.a.au)), .val (.bool (d.a.pa)), .val (.int .i64 (d.a.code)), .val (.int .u32 (d.a.time)), .val (.bool (d.g)), .val (.bool (d.f)), .val (.bool (d.s)), .val (.int .i64 (d.held.k)), .val (.int .i64 (d.held.c)), .val (.int .i64 (d.held.x)), .val (.int .i64 (d.held.y)), .val (.int .u32 (d.held.t)), .val (.int .i64 (d.held.n)), .val (.bool (d.hs)), .ro 6 (d.ws.map IN.enc)]
def DV.freeze (d : DV) : DV := ⟨d.a, d.g, true, false, d.held, d.hs, d.ws⟩
def DV.end_ (d : DV) : DV := ⟨AC.z, false, false, false, IN.z, false, d.ws⟩
def DV.thaw (d : DV) : DV := ⟨d.a, d.g, false, false, IN.z, false, d.ws⟩
def DV.hold (d : DV) (i : IN) : DV := ⟨d.a, d.g, d.f, d.s, i, true, d.ws⟩
theorem freeze_c (d : DV) (h : Heap) : ACalls Tryz.prog 52 [d.enc] h (fun r h' => r = d.freeze.enc ∧ h' = h) := by
  unfold DV.enc
  refine ACalls.intro Tryz.func52 rfl Tryz.ntmps52 Tryz.results52 (Nat.le_of_ble_eq_true rfl) ?_
  (repeat' (first|refine svz ⟨fun b hq=>?_⟩|refine svA ⟨?_⟩|refine svu ⟨fun u=>?_⟩|(refine svG (fun hg=>?_) (fun hg=>?_)<;>try exact svx)|refine svh (fun hb=>?_) (fun hb=>?_)|refine svb (fun b=>?_)|fail))
  refine fin_r (h' := h) (Q := fun r h' => r = _ ∧ h' = h) ?_; exact ⟨rfl, rfl⟩
theorem active_c (d : DV) (h : Heap) : ACalls Tryz.prog 53 [d.enc] h (fun r h' => r = .tup [d.a.enc, .val (.bool (d.g))] ∧ h' = h) := by
  unfold DV.enc AC.enc
  refine ACalls.intro Tryz.func53 rfl Tryz.ntmps53 Tryz.results53 (Nat.le_of_ble_eq_true rfl) ?_
  (repeat' (first|refine svz ⟨fun b hq=>?_⟩|refine svA ⟨?_⟩|refine svu ⟨fun u=>?_⟩|(refine svG (fun hg=>?_) (fun hg=>?_)<;>try exact svx)|refine svh (fun hb=>?_) (fun hb=>?_)|refine svb (fun b=>?_)|fail))
  refine W.dr (.rw (.ro (.done _))) ?_
  (repeat' (first|refine svz ⟨fun b hq=>?_⟩|refine svA ⟨?_⟩|refine svu ⟨fun u=>?_⟩|(refine svG (fun hg=>?_) (fun hg=>?_)<;>try exact svx)|refine svh (fun hb=>?_) (fun hb=>?_)|refine svb (fun b=>?_)|fail))
  refine fin_r (h' := h) (Q := fun r h' => r = _ ∧ h' = h) ?_; exact ⟨rfl, rfl⟩
theorem frozen_c (d : DV) (h : Heap) : ACalls Tryz.prog 91 [d.enc] h (fun r h' => r = .val (.bool (d.f)) ∧ h' = h) := by
  unfold DV.enc
  refine ACalls.intro Tryz.func91 rfl Tryz.ntmps91 Tryz.results91 (Nat.le_of_ble_eq_true rfl) ?_
  (repeat' (first|refine svz ⟨fun b hq=>?_⟩|refine svA ⟨?_⟩|refine svu ⟨fun u=>?_⟩|(refine svG (fun hg=>?_) (fun hg=>?_)<;>try exact svx)|refine svh (fun hb=>?_) (fun hb=>?_)|refine svb (fun b=>?_)|fail))
  refine fin_r (h' := h) (Q := fun r h' => r = _ ∧ h' = h) ?_; exact ⟨rfl, rfl⟩
theorem stepping_c (d : DV) (h : Heap) : ACalls Tryz.prog 118 [d.enc] h (fun r h' => r = .val (.bool (d.s)) ∧ h' = h) := by
  unfold DV.enc
  refine ACalls.intro Tryz.func118 rfl Tryz.ntmps118 Tryz.results118 (Nat.le_of_ble_eq_true rfl) ?_
  (repeat' (first|refine svz ⟨fun b hq=>?_⟩|refine svA ⟨?_⟩|refine svu ⟨fun u=>?_⟩|(refine svG (fun hg=>?_) (fun hg=>?_)<;>try exact svx)|refine svh (fun hb=>?_) (fun hb=>?_)|refine svb (fun b=>?_)|fail))
  refine fin_r (h' := h) (Q := fun r h' => r = _ ∧ h' = h) ?_; exact ⟨rfl, rfl⟩
theorem thaw_c (d : DV) (h : Heap) : ACalls Tryz.prog 92 [d.enc] h (fun r h' => r = .tup [d.thaw.enc, IN.z.enc, .val (.bool (false))] ∧ h' = h) := by
  unfold DV.enc
  refine ACalls.intro Tryz.func92 rfl Tryz.ntmps92 Tryz.results92 (Nat.le_of_ble_eq_true rfl) ?_
  (repeat' (first|refine svz ⟨fun b hq=>?_⟩|refine svA ⟨?_⟩|refine svu ⟨fun u=>?_⟩|(refine svG (fun hg=>?_) (fun hg=>?_)<;>try exact svx)|refine svh (fun hb=>?_) (fun hb=>?_)|refine svb (fun b=>?_)|fail))
  refine S.store_any ?_ (hl := Nat.le_of_ble_eq_true rfl)
  (repeat' (first|refine svz ⟨fun b hq=>?_⟩|refine svA ⟨?_⟩|refine svu ⟨fun u=>?_⟩|(refine svG (fun hg=>?_) (fun hg=>?_)<;>try exact svx)|refine svh (fun hb=>?_) (fun hb=>?_)|refine svb (fun b=>?_)|fail))
  refine fin_r (h' := h) (Q := fun r h' => r = _ ∧ h' = h) ?_; exact ⟨rfl, rfl⟩
theorem hold_c (d : DV) (i : IN) (h : Heap) : ACalls Tryz.prog 119 [d.enc, i.enc] h (fun r h' => r = (d.hold i).enc ∧ h' = h) := by
  unfold DV.enc
  rw [IN.enc_eq i]
  refine ACalls.intro Tryz.func119 rfl Tryz.ntmps119 Tryz.results119 (Nat.le_of_ble_eq_true rfl) ?_
  (repeat' (first|refine svz ⟨fun b hq=>?_⟩|refine svA ⟨?_⟩|refine svu ⟨fun u=>?_⟩|(refine svG (fun hg=>?_) (fun hg=>?_)<;>try exact svx)|refine svh (fun hb=>?_) (fun hb=>?_)|refine svb (fun b=>?_)|fail))
  refine S.store_any ?_ (hl := Nat.le_of_ble_eq_true rfl)
  (repeat' (first|refine svz ⟨fun b hq=>?_⟩|refine svA ⟨?_⟩|refine svu ⟨fun u=>?_⟩|(refine svG (fun hg=>?_) (fun hg=>?_)<;>try exact svx)|refine svh (fun hb=>?_) (fun hb=>?_)|refine svb (fun b=>?_)|fail))
  refine fin_r (h' := h) (Q := fun r h' => r = _ ∧ h' = h) ?_; exact ⟨rfl, rfl⟩
theorem dend_c (d : DV) (h : Heap) : ACalls Tryz.prog 121 [d.enc] h (fun r h' => r = d.end_.enc ∧ h' = h) := by
  unfold DV.enc
  refine ACalls.intro Tryz.func121 rfl Tryz.ntmps121 Tryz.results121 (Nat.le_of_ble_eq_true rfl) ?_
  (repeat' (first|refine svz ⟨fun b hq=>?_⟩|refine svA ⟨?_⟩|refine svu ⟨fun u=>?_⟩|(refine svG (fun hg=>?_) (fun hg=>?_)<;>try exact svx)|refine svh (fun hb=>?_) (fun hb=>?_)|refine svb (fun b=>?_)|fail))
  refine fin_r (h' := h) (Q := fun r h' => r = _ ∧ h' = h) ?_; exact ⟨rfl, rfl⟩
theorem clnin_c0 (l : List IN) (h : Heap) (hl : l.length ≤ 1000000000) : ACalls Tryz.prog 57 [.ro 6 (l.map IN.enc)] h (fun r h' => (r = .val (.slice none 0 0) ∧ l = [] ∧ h' = h) ∨ ∃ v, r = .val v ∧ h' = .own v 6 (l.map IN.enc) 47 :: h) := by
  refine ACalls.intro Tryz.func57 rfl Tryz.ntmps57 Tryz.results57 (Nat.le_of_ble_eq_true rfl) ?_
  (repeat' (first|refine svz ⟨fun b hq=>?_⟩|refine svA ⟨?_⟩|refine svu ⟨fun u=>?_⟩|(refine svG (fun hg=>?_) (fun hg=>?_)<;>try exact svx)|refine svh (fun hb=>?_) (fun hb=>?_)|refine svb (fun b=>?_)|fail))
  · have : l = [] := by simpa using hq (by assumption)
    exact fin_r (h' := h) (.inl ⟨rfl, this, rfl⟩)
  · exact fin_r (h' := .own u 6 (l.map IN.enc) 47 :: h) (.inr ⟨u, rfl, rfl⟩)
theorem clnin_c (l : List IN) (h : Heap) (hl : l.length ≤ 1000000000) : ACalls Tryz.prog 57 [.ro 6 (l.map IN.enc)] h (fun r h' => r = .ro 6 (l.map IN.enc) ∧ h' = h) := by
  refine ((clnin_c0 l h hl).wk (Q' := fun r h' => (r = .ro 6 (l.map IN.enc) ∧ h' = h) ∨ ∃ v, r = .val v ∧ h' = .own v 6 (l.map IN.enc) 47 :: h) ?_).frzo ?_
  · rintro r h' (⟨rfl, rfl, rfl⟩ | ⟨v, rfl, rfl⟩)
    · exact ⟨_, .nilr 6, .inl ⟨rfl, rfl⟩⟩
    · exact ⟨_, .refl _, .inr ⟨v, rfl, rfl⟩⟩
  · rintro r h' (⟨rfl, rfl⟩ | ⟨v, rfl, rfl⟩)
    · exact .inl ⟨rfl, rfl⟩
    · exact .inr ⟨v, 6, _, _, _, h, .here, .hit, rfl, rfl⟩
end Go.Proofs.YtbknacpdcdkjiaaGreat

/- Arrays made of parts. No condition. -/
namespace Go.VM
open Go
set_option maxRecDepth 100000
set_option linter.unusedVariables false
set_option linter.unusedSimpArgs false
theorem fill_congr {f g : Nat → Option (Nat × Nat)} (hfg : ∀ i x, f i = some x → g i = some x) : ∀ (vs : List (Nat × Value)) (cs cs' : Array Value), Instr.fill f cs vs = some cs' → Instr.fill g cs vs = some cs'
  | [], cs, cs', h => by simpa [Instr.fill] using h
  | (i, u) :: vs, cs, cs', h => by
    simp only [Instr.fill] at h ⊢
    cases hf : f i with
    | none => rw [hf] at h; cases h
    | some p =>
      rw [hf] at h
      rw [hfg i p hf]
      dsimp only at h ⊢
      split at h
      · cases h
      · rename_i hc
        rw [if_neg hc]
        exact fill_congr hfg vs _ cs' h
section
variable {P : Program} {d : Option Nat} {ty : Nat} {pos : String} {af : Array Edge} {gd : Option (Nat × Bool)} {tm : List (Nat × AV)} {h : Heap}
theorem pur_buildarr {bt nn e : Nat} {g : Bool} {z z' : List AV} {ps : Array (Nat × Operand)} {vs : List (Nat × AV)} [hz : TZero P bt z] [ha : TArr P bt nn e 1 g] (hx : EvalP tm ps.toList vs) (hf : fillA ((List.range nn).map fun i => (i, 1)) z vs = some z') : PurV P ⟨d, .build bt ps, ty, pos, af, gd⟩ tm h (.agg z') := by
  intro m a w0 ht g1 g2
  obtain ⟨i, v, hi, hv, rfl, hsz, hone⟩ := zeroQ_spec hz.h
  obtain ⟨h1, h2⟩ := hx.spec ht
  obtain ⟨cs', h3, h4⟩ := fill_rel vs (ps.toList.map fun (i, x) => (i, a.eval x)) _ z' v.cells (relL_vals m _ hone) h1 h2 hf
  refine ⟨.agg cs', by simp only [Rel]; exact ⟨_, rfl, h4⟩, fun w => ?_⟩
  obtain ⟨_, ⟨ie, hie, hs⟩, _⟩ := valQ_spec ha.v
  have h5 := fill_congr (g := fun i => some (i * ie.size, ie.size)) (fun i x hx => by
    rw [hs, Nat.mul_one]
    rw [List.getElem?_map] at hx
    cases hr : (List.range nn)[i]? with
    | none => rw [hr] at hx; cases hx
    | some j =>
      rw [hr] at hx
      obtain ⟨hj, e⟩ := List.getElem?_eq_some_iff.1 hr
      rw [List.getElem_range] at e
      subst e
      exact hx) _ _ _ h3
  have hb : P.built bt (ps.map fun (i, x) => (i, a.eval x)).toList = some cs' := by
    simp only [Program.built, hi, ha.h, hv, hie]
    simpa using h5
  simp [execOp, run_build w bt _ cs' hb]
end
end Go.VM

/- Method values: functions with their first arguments. No condition. -/
namespace Go.VM
open Go
set_option maxRecDepth 100000
set_option linter.unusedVariables false
set_option linter.unusedSimpArgs false
section
variable {ro : Option Nat} {P : Program} {n : Nat} {t : List (Nat × AV)} {h : Heap} {K : St → Prop} {d : Nat} {ty : Nat} {pos : String} {af : Array Edge} {gd : Option (Nat × Bool)} {x y : Operand}
theorem pur_makeBnd {dd : Option Nat} {tm : List (Nat × AV)} {f : Fn} {caps : Array Operand} {l : List AV} (hx : Evals tm caps.toList l) : PurV P ⟨dd, .makeFunc f caps #[], ty, pos, af, gd⟩ tm h (.bnd f l) := by
  intro m a w0 ht g1 g2
  refine ⟨.func f (caps.map a.eval) #[], ?_, fun w => by simp [execOp, Instr.makeFunc]⟩
  simp only [Rel]
  exact ⟨_, rfl, by simpa using hx.rel ht⟩
theorem S.mkb {f : Fn} {caps : Array Operand} {l : List AV} (hK : K ⟨n, (d, .bnd f l) :: t, h⟩) (hx : Evals t caps.toList l := by (repeat (first | exact Evals.nil | (apply Evals.cons; rfl)))) (hn : Nat.blt d n = true := by rfl) : Step P ⟨some d, .makeFunc f caps #[], ty, pos, af, gd⟩ ⟨n, t, h⟩ K := step_v (pur_makeBnd hx) hn hK
theorem S.call_bnd {f : Nat} {args : Array Operand} {ats : Array Nat} {vs bs : List AV} [TFun P f] (hc : ACalls P f (bs ++ vs) h (fun r h' => K ⟨n, (d, r) :: t, h'⟩)) (hg : evalA t x = some (.bnd (.func f) bs) := by rfl) (hx : Evals t args.toList vs := by (repeat (first | exact Evals.nil | (apply Evals.cons; rfl)))) (hn : Nat.blt d n = true := by rfl) :
    Step P ⟨some d, .call { callee := .value x, args := args, argTypes := ats }, ty, pos, af, gd⟩ ⟨n, t, h⟩ K := by
  refine step_of_calls (s := ⟨n, t, h⟩) (f := f) (vs := bs ++ vs) (fun m0 w0 m a w hs => ?_) hn hc
  have hg' := hs.tmps.eval hg
  simp only [Rel] at hg'
  obtain ⟨cs, hg', hcs⟩ := hg'
  refine ⟨cs.toList ++ args.toList.map a.eval, hcs.append (hx.rel hs.tmps), ?_⟩
  have e : (cs.toList ++ args.toList.map a.eval).toArray = cs ++ args.map a.eval := by apply Array.ext'; simp
  rw [e]
  simp [execOp, resolve, Deferred.ofValue, hg', invoke, run_callF]
end
end Go.VM

/- Arrays made of parts that have several cells. No condition. -/
namespace Go.VM
open Go
set_option maxRecDepth 100000
set_option linter.unusedVariables false
set_option linter.unusedSimpArgs false
section
variable {P : Program} {d : Option Nat} {ty : Nat} {pos : String} {af : Array Edge} {gd : Option (Nat × Bool)} {tm : List (Nat × AV)} {h : Heap}
theorem pur_buildark {bt nn e k : Nat} {g : Bool} {z z' : List AV} {ps : Array (Nat × Operand)} {vs : List (Nat × AV)} [hz : TZero P bt z] [ha : TArr P bt nn e k g] (hx : EvalP tm ps.toList vs) (hf : fillA ((List.range nn).map fun i => (i * k, k)) z vs = some z') : PurV P ⟨d, .build bt ps, ty, pos, af, gd⟩ tm h (.agg z') := by
  intro m a w0 ht g1 g2
  obtain ⟨i, v, hi, hv, rfl, hsz, hone⟩ := zeroQ_spec hz.h
  obtain ⟨h1, h2⟩ := hx.spec ht
  obtain ⟨cs', h3, h4⟩ := fill_rel vs (ps.toList.map fun (i, x) => (i, a.eval x)) _ z' v.cells (relL_vals m _ hone) h1 h2 hf
  refine ⟨.agg cs', by simp only [Rel]; exact ⟨_, rfl, h4⟩, fun w => ?_⟩
  obtain ⟨_, ⟨ie, hie, hs⟩, _⟩ := valQ_spec ha.v
  have h5 := fill_congr (g := fun i => some (i * ie.size, ie.size)) (fun i x hx => by
    rw [hs]
    rw [List.getElem?_map] at hx
    cases hr : (List.range nn)[i]? with
    | none => rw [hr] at hx; cases hx
    | some j =>
      rw [hr] at hx
      obtain ⟨hj, e⟩ := List.getElem?_eq_some_iff.1 hr
      rw [List.getElem_range] at e
      subst e
      exact hx) _ _ _ h3
  have hb : P.built bt (ps.map fun (i, x) => (i, a.eval x)).toList = some cs' := by
    simp only [Program.built, hi, ha.h, hv, hie]
    simpa using h5
  simp [execOp, run_build w bt _ cs' hb]
end
end Go.VM

/- Three variables made in a region that draws its order. No condition. -/
namespace Go.VM
open Go
set_option maxRecDepth 100000
set_option linter.unusedVariables false
set_option linter.unusedSimpArgs false
section
variable {ro : Option Nat} {P : Program} {n : Nat} {t : List (Nat × AV)} {h : Heap} {K : St → Prop} {ops : Array Oper} {hro : Heap} {todo : List Nat} {i : Nat} {d : Nat} {ty : Nat} {pos : String} {af : Array Edge}
theorem inL_tail {j : Nat} {l : List Nat} (h : inL (j :: l) i = false) : inL l i = false := by
  cases q : inL l i with
  | false => rfl
  | true => rw [← h]; exact (inL_iff.2 (.tail _ (inL_iff.1 q))).symm ▸ rfl
end
end Go.VM
