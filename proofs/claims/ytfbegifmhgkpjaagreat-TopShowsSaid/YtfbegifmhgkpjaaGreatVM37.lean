import Derived.Test.YtfbegifmhgkpjaaGreatZ11
import Derived.Test.YtfbegifmhgkpjaaGreatLayM
/- Views: Visible, Clip, Origin, Windows; expose.One. No condition. -/
namespace Go.Proofs.YtfbegifmhgkpjaaGreat
open Go Go.VM
attribute [local irreducible] PurV Pur Step RL W D ACalls Then InBlock Fini
set_option linter.unusedVariables false
set_option linter.unusedSimpArgs false
set_option maxHeartbeats 20000000
def encW (o : List Int) (V : List (Int × SW)) : AV := .agg [.ro 1 (ints .u32 (o)), mapV .u32 vSW V]
def clF (V : List (Int × SW)) (id : Int) : List RC := match lkF V id with | none => [] | some s => s.clip
def visF (V : List (Int × SW)) (id : Int) : List RC := match lkF V id with | none => [] | some s => shF (0 - s.x) (0 - s.y) s.clip
def VOk (V : List (Int × SW)) : Prop := ∀ id s, lkF V id = some s → Bx 0 16 s.clip ∧ (-100000 ≤ s.x ∧ s.x ≤ 100000) ∧ -100000 ≤ s.y ∧ s.y ≤ 100000
set_option maxRecDepth 100000 in
theorem visible_c (o : List Int) (V : List (Int × SW)) (id : Int) (h : Heap) (ok : VOk V) : ACalls Tryz.prog 17 [encW o V, .val (.int .u32 (id))] h (fun r h' => r = regE (visF V id) ∧ h' = h) := by
  unfold visF
  cases e : lkF V id with
  | none =>
    have s0 := fun h => (shift_b [] (0 - 0) (0 - 0) h (Bx.nil 0 16) (by omega) (by omega)).args (vs := [.agg [.val (.slice none 0 0)], .val (.int .i64 (0 - 0)), .val (.int .i64 (0 - 0))]) (by (repeat (first | exact Wk.refl _ | exact Wk.nilr _ | exact Wk.nilm | apply Wk.aggc | apply Wk.tupc | exact Wk.aggn | exact Wk.tupn)); first | done | fail)
    rw [show shF (0 - 0) (0 - 0) [] = [] from rfl] at s0
    dsimp only
    unfold encW regE at *
    refine ACalls.intro Tryz.func17 rfl Tryz.ntmps17 Tryz.results17 (Nat.le_of_ble_eq_true rfl) ?_
    (repeat' (first|refine svz ⟨fun b hq=>?_⟩|refine svA ⟨?_⟩|refine svu ⟨fun u=>?_⟩|(refine svG (fun hg=>?_) (fun hg=>?_)<;>try exact svx)|refine svh (fun hb=>?_) (fun hb=>?_)|refine svb (fun b=>?_)|fail))
    rw [show lkV vSW (.agg [.val (.int .i64 (0)), .val (.int .i64 (0)), .val (.slice none 0 0)]) (lkF V id) = (.agg [.val (.int .i64 (0)), .val (.int .i64 (0)), .val (.slice none 0 0)]) by rw [e]; rfl]
    (repeat' (first|refine svz ⟨fun b hq=>?_⟩|refine svA ⟨?_⟩|refine svu ⟨fun u=>?_⟩|(refine svG (fun hg=>?_) (fun hg=>?_)<;>try exact svx)|refine svh (fun hb=>?_) (fun hb=>?_)|refine svb (fun b=>?_)|fail))
    refine S.call ?_; refine (s0 _).mono ?_; rintro r h' ⟨rfl, hh⟩; subst hh
    (repeat' (first|refine svz ⟨fun b hq=>?_⟩|refine svA ⟨?_⟩|refine svu ⟨fun u=>?_⟩|(refine svG (fun hg=>?_) (fun hg=>?_)<;>try exact svx)|refine svh (fun hb=>?_) (fun hb=>?_)|refine svb (fun b=>?_)|fail))
    exact fin_r (h' := h) ⟨rfl, rfl⟩
  | some s =>
    obtain ⟨k1, k2, k3⟩ := ok id s e
    have s0 := fun h => shift_b s.clip (0 - s.x) (0 - s.y) h k1 (by omega) (by omega)
    dsimp only
    unfold encW regE at *
    refine ACalls.intro Tryz.func17 rfl Tryz.ntmps17 Tryz.results17 (Nat.le_of_ble_eq_true rfl) ?_
    (repeat' (first|refine svz ⟨fun b hq=>?_⟩|refine svA ⟨?_⟩|refine svu ⟨fun u=>?_⟩|(refine svG (fun hg=>?_) (fun hg=>?_)<;>try exact svx)|refine svh (fun hb=>?_) (fun hb=>?_)|refine svb (fun b=>?_)|fail))
    rw [show lkV vSW (.agg [.val (.int .i64 (0)), .val (.int .i64 (0)), .val (.slice none 0 0)]) (lkF V id) = vSW s by rw [e]; rfl]
    unfold vSW
    (repeat' (first|refine svz ⟨fun b hq=>?_⟩|refine svA ⟨?_⟩|refine svu ⟨fun u=>?_⟩|(refine svG (fun hg=>?_) (fun hg=>?_)<;>try exact svx)|refine svh (fun hb=>?_) (fun hb=>?_)|refine svb (fun b=>?_)|fail))
    refine S.call ?_; refine (s0 _).mono ?_; rintro r h' ⟨rfl, hh⟩; subst hh
    (repeat' (first|refine svz ⟨fun b hq=>?_⟩|refine svA ⟨?_⟩|refine svu ⟨fun u=>?_⟩|(refine svG (fun hg=>?_) (fun hg=>?_)<;>try exact svx)|refine svh (fun hb=>?_) (fun hb=>?_)|refine svb (fun b=>?_)|fail))
    exact fin_r (h' := h) ⟨rfl, rfl⟩
set_option maxRecDepth 100000 in
theorem vclip_c (o : List Int) (V : List (Int × SW)) (id : Int) (h : Heap) : ACalls Tryz.prog 18 [encW o V, .val (.int .u32 (id))] h (fun r h' => r = regE (clF V id) ∧ h' = h) := by
  unfold clF
  cases e : lkF V id with
  | none =>
    refine ACalls.wk (Q := fun v h' => v = .agg [.val (.slice none 0 0)] ∧ h' = h) ?_ ?_
    · unfold encW
      refine ACalls.intro Tryz.func18 rfl Tryz.ntmps18 Tryz.results18 (Nat.le_of_ble_eq_true rfl) ?_
      (repeat' (first|refine svz ⟨fun b hq=>?_⟩|refine svA ⟨?_⟩|refine svu ⟨fun u=>?_⟩|(refine svG (fun hg=>?_) (fun hg=>?_)<;>try exact svx)|refine svh (fun hb=>?_) (fun hb=>?_)|refine svb (fun b=>?_)|fail))
      rw [show lkV vSW (.agg [.val (.int .i64 (0)), .val (.int .i64 (0)), .val (.slice none 0 0)]) (lkF V id) = (.agg [.val (.int .i64 (0)), .val (.int .i64 (0)), .val (.slice none 0 0)]) by rw [e]; rfl]
      (repeat' (first|refine svz ⟨fun b hq=>?_⟩|refine svA ⟨?_⟩|refine svu ⟨fun u=>?_⟩|(refine svG (fun hg=>?_) (fun hg=>?_)<;>try exact svx)|refine svh (fun hb=>?_) (fun hb=>?_)|refine svb (fun b=>?_)|fail))
      exact fin_r (h' := h) ⟨rfl, rfl⟩
    · rintro v h' ⟨rfl, rfl⟩
      exact ⟨_, (by (repeat (first | exact Wk.refl _ | exact Wk.nilr _ | exact Wk.nilm | apply Wk.aggc | apply Wk.tupc | exact Wk.aggn | exact Wk.tupn)); first | done | fail), rfl, rfl⟩
  | some s =>
    dsimp only
    unfold encW regE at *
    refine ACalls.intro Tryz.func18 rfl Tryz.ntmps18 Tryz.results18 (Nat.le_of_ble_eq_true rfl) ?_
    (repeat' (first|refine svz ⟨fun b hq=>?_⟩|refine svA ⟨?_⟩|refine svu ⟨fun u=>?_⟩|(refine svG (fun hg=>?_) (fun hg=>?_)<;>try exact svx)|refine svh (fun hb=>?_) (fun hb=>?_)|refine svb (fun b=>?_)|fail))
    rw [show lkV vSW (.agg [.val (.int .i64 (0)), .val (.int .i64 (0)), .val (.slice none 0 0)]) (lkF V id) = vSW s by rw [e]; rfl]
    unfold vSW
    (repeat' (first|refine svz ⟨fun b hq=>?_⟩|refine svA ⟨?_⟩|refine svu ⟨fun u=>?_⟩|(refine svG (fun hg=>?_) (fun hg=>?_)<;>try exact svx)|refine svh (fun hb=>?_) (fun hb=>?_)|refine svb (fun b=>?_)|fail))
    exact fin_r (h' := h) ⟨rfl, rfl⟩
set_option maxRecDepth 100000 in
theorem vorig_c (o : List Int) (V : List (Int × SW)) (id : Int) (s : SW) (h : Heap) (e : lkF V id = some s) : ACalls Tryz.prog 62 [encW o V, .val (.int .u32 (id))] h (fun r h' => r = .tup [.agg [.val (.int .i64 (s.x)), .val (.int .i64 (s.y))], .val (.bool (true))] ∧ h' = h) := by
  unfold encW
  refine ACalls.intro Tryz.func62 rfl Tryz.ntmps62 Tryz.results62 (Nat.le_of_ble_eq_true rfl) ?_
  (repeat' (first|refine svz ⟨fun b hq=>?_⟩|refine svA ⟨?_⟩|refine svu ⟨fun u=>?_⟩|(refine svG (fun hg=>?_) (fun hg=>?_)<;>try exact svx)|refine svh (fun hb=>?_) (fun hb=>?_)|refine svb (fun b=>?_)|fail))
  rw [show lkV vSW (.agg [.val (.int .i64 (0)), .val (.int .i64 (0)), .val (.slice none 0 0)]) (lkF V id) = vSW s by rw [e]; rfl, e]
  unfold vSW
  (repeat' (first|refine svz ⟨fun b hq=>?_⟩|refine svA ⟨?_⟩|refine svu ⟨fun u=>?_⟩|(refine svG (fun hg=>?_) (fun hg=>?_)<;>try exact svx)|refine svh (fun hb=>?_) (fun hb=>?_)|refine svb (fun b=>?_)|fail))
  exact fin_r (h' := h) ⟨rfl, rfl⟩
set_option maxRecDepth 100000 in
theorem vwin_c (o : List Int) (V : List (Int × SW)) (h : Heap) (hl : o.length ≤ 1000000) : ACalls Tryz.prog 40 [encW o V] h (fun r h' => r = .ro 1 (ints .u32 (o)) ∧ h' = h) := by
  have cl := fun h => clnI_c o h (by omega)
  unfold encW
  refine ACalls.intro Tryz.func40 rfl Tryz.ntmps40 Tryz.results40 (Nat.le_of_ble_eq_true rfl) ?_
  (repeat' (first|refine svz ⟨fun b hq=>?_⟩|refine svA ⟨?_⟩|refine svu ⟨fun u=>?_⟩|(refine svG (fun hg=>?_) (fun hg=>?_)<;>try exact svx)|refine svh (fun hb=>?_) (fun hb=>?_)|refine svb (fun b=>?_)|fail))
  refine S.call ?_; refine (cl _).mono ?_; rintro r h' ⟨rfl, hh⟩; subst hh
  (repeat' (first|refine svz ⟨fun b hq=>?_⟩|refine svA ⟨?_⟩|refine svu ⟨fun u=>?_⟩|(refine svG (fun hg=>?_) (fun hg=>?_)<;>try exact svx)|refine svh (fun hb=>?_) (fun hb=>?_)|refine svb (fun b=>?_)|fail))
  exact fin_r (h' := h) ⟨rfl, rfl⟩
theorem Zx.vis {V : List (Int × SW)} (ok : VOk V) (id : Int) : Zx 16 (visF V id) := by
  unfold visF
  cases e : lkF V id with
  | none => exact (Bx.nil 0 16).zx
  | some s =>
    obtain ⟨k1, k2, k3⟩ := ok id s e
    exact Zx.sh k1 (by omega) (by omega) (by omega)
def kpF (V V2 : List (Int × SW)) (id dx dy : Int) (fg : Bool) : List RC := if fg then [] else AndJ (visF V2 id) (shF dx dy (visF V id))
structure CH where
  (id : Int) (kept nw : List RC)
def CH.enc (c : CH) : AV := .agg [.val (.int .u32 (c.id)), .ro 4 (c.kept.map RC.enc), .ro 4 (c.nw.map RC.enc)]
def oneF (V V2 : List (Int × SW)) (id dx dy : Int) (fg : Bool) : CH := ⟨id, kpF V V2 id dx dy fg, NotJ (visF V2 id) (kpF V V2 id dx dy fg)⟩
theorem vis_bd {V : List (Int × SW)} (ok : VOk V) (id : Int) : ∀ r ∈ visF V id, (-110000 ≤ r.x ∧ r.x + r.w ≤ 110000) ∧ -110000 ≤ r.y ∧ r.y + r.h ≤ 110000 := fun r hr => by
  unfold visF at hr
  cases e : lkF V id with
  | none => rw [e] at hr; cases hr
  | some s =>
    rw [e] at hr
    obtain ⟨k1, k2, k3⟩ := ok id s e
    obtain ⟨q, hq, rfl⟩ := List.mem_map.1 hr
    have := k1.inb q hq
    unfold shR; dsimp only; omega
theorem vis_sh {V : List (Int × SW)} (ok : VOk V) (id : Int) {dx dy : Int} (hx : -1000 ≤ dx ∧ dx ≤ 1000) (hy : -1000 ≤ dy ∧ dy ≤ 1000) : Zx 16 (shF dx dy (visF V id)) := by
  unfold visF
  cases e : lkF V id with
  | none => exact (Bx.nil 0 16).zx
  | some s =>
    obtain ⟨k1, k2, k3⟩ := ok id s e
    have : shF dx dy (shF (0 - s.x) (0 - s.y) s.clip) = shF (dx - s.x) (dy - s.y) s.clip := by
      unfold shF
      rw [List.map_map]
      refine List.map_congr_left fun r hr => ?_
      simp only [Function.comp, shR, RC.mk.injEq, and_true]
      omega
    dsimp only
    rw [this]
    exact Zx.sh k1 (by omega) (by omega) (by omega)
theorem Zx.left {n : Nat} {A B : List RC} {k : Bool → Bool → Bool} (hk : ∀ b, k false b = false) (ha : Zx n A) (hb : Can B) : Zx n (joinJ k A B) := by
  obtain ⟨ca, a, c, q⟩ := ha
  refine ⟨can_join _ _ _, a, c, fun r hr => ?_⟩
  obtain ⟨⟨_, p1, _⟩, _, p2, _⟩ := (can_join k A B).cnt r hr
  have h1 : ∀ x y, hasR (joinJ k A B) x y = true → (a ≤ x ∧ x < a + n) ∧ c ≤ y ∧ y < c + n := fun x y h => by
    rw [has_join ca hb (hk false)] at h
    cases e : hasR A x y with
    | false => rw [e, hk] at h; cases h
    | true =>
      obtain ⟨s, hs, h1, h2, h3, h4⟩ := hasR_iff.1 e
      have := q s hs
      omega
  have h2 := h1 r.x r.y (hasR_iff.2 ⟨r, hr, by unfold RC.has; omega⟩)
  have h3 := h1 (r.x + r.w - 1) (r.y + r.h - 1) (hasR_iff.2 ⟨r, hr, by unfold RC.has; omega⟩)
  omega
theorem kp_zx {V V2 : List (Int × SW)} (ok : VOk V) (ok2 : VOk V2) (id : Int) {dx dy : Int} (hx : -1000 ≤ dx ∧ dx ≤ 1000) (hy : -1000 ≤ dy ∧ dy ≤ 1000) (fg : Bool) : Zx 16 (kpF V V2 id dx dy fg) := by
  unfold kpF
  split
  · exact (Bx.nil 0 16).zx
  · exact (Zx.vis ok2 id).left (fun _ => rfl) (vis_sh ok id hx hy).can
set_option maxRecDepth 100000 in
theorem one_c (o o2 : List Int) (V V2 : List (Int × SW)) (id dx dy : Int) (fg : Bool) (h : Heap) (ok : VOk V) (ok2 : VOk V2) (hx : -1000 ≤ dx ∧ dx ≤ 1000) (hy : -1000 ≤ dy ∧ dy ≤ 1000) :
    ACalls Tryz.prog 91 [encW o V, encW o2 V2, .val (.int .u32 (id)), .agg [.val (.int .i64 (dx)), .val (.int .i64 (dy)), .val (.bool (fg))]] h (fun r h' => r = (oneF V V2 id dx dy fg).enc ∧ h' = h) := by
  have v2 := fun h => visible_c o2 V2 id h ok2
  have v1 := fun h => visible_c o V id h ok
  have z1 := Zx.vis ok id
  have z2 := Zx.vis ok2 id
  have zk := kp_zx ok ok2 id hx hy fg
  have b1 := vis_bd ok id
  have zs := vis_sh ok id hx hy
  have s1 := fun h => shift_in (visF V id) dx dy h z1.can (by have := z1.len (by omega); omega) (fun r hr => by have := b1 r hr; omega) (by omega) (by omega)
  have t1 := fun h => meet_c (visF V2 id) (shF dx dy (visF V id)) h (z2.jok zs (by omega) (by omega))
  have t2 := fun h => minus_c (visF V2 id) (kpF V V2 id dx dy fg) h (z2.jok zk (by omega) (by omega))
  clear z1 z2 zk b1 zs
  unfold oneF
  cases fg
  · rw [show kpF V V2 id dx dy false = AndJ (visF V2 id) (shF dx dy (visF V id)) from rfl] at *
    rw [show joinJ (fun p q => p && q) (visF V2 id) (shF dx dy (visF V id)) = AndJ (visF V2 id) (shF dx dy (visF V id)) from rfl] at t1
    rw [show joinJ (fun p q => p && !q) (visF V2 id) (AndJ (visF V2 id) (shF dx dy (visF V id))) = NotJ (visF V2 id) (AndJ (visF V2 id) (shF dx dy (visF V id))) from rfl] at t2
    unfold CH.enc
    dsimp only
    generalize NotJ (visF V2 id) (AndJ (visF V2 id) (shF dx dy (visF V id))) = N0 at *
    generalize AndJ (visF V2 id) (shF dx dy (visF V id)) = K0 at *
    unfold encW regE at *
    refine ACalls.intro Tryz.func91 rfl Tryz.ntmps91 Tryz.results91 (Nat.le_of_ble_eq_true rfl) ?_
    (repeat' (first|refine svz ⟨fun b hq=>?_⟩|refine svA ⟨?_⟩|refine svu ⟨fun u=>?_⟩|(refine svG (fun hg=>?_) (fun hg=>?_)<;>try exact svx)|refine svh (fun hb=>?_) (fun hb=>?_)|refine svb (fun b=>?_)|fail))
    refine S.call ?_; refine (v2 _).mono ?_; rintro r h' ⟨rfl, hh⟩; subst hh
    (repeat' (first|refine svz ⟨fun b hq=>?_⟩|refine svA ⟨?_⟩|refine svu ⟨fun u=>?_⟩|(refine svG (fun hg=>?_) (fun hg=>?_)<;>try exact svx)|refine svh (fun hb=>?_) (fun hb=>?_)|refine svb (fun b=>?_)|fail))
    refine R2.C (v1 _) ?_
    (repeat' (first|refine svz ⟨fun b hq=>?_⟩|refine svA ⟨?_⟩|refine svu ⟨fun u=>?_⟩|(refine svG (fun hg=>?_) (fun hg=>?_)<;>try exact svx)|refine svh (fun hb=>?_) (fun hb=>?_)|refine svb (fun b=>?_)|fail))
    refine R2.C (s1 _) ?_
    (repeat' (first|refine svz ⟨fun b hq=>?_⟩|refine svA ⟨?_⟩|refine svu ⟨fun u=>?_⟩|(refine svG (fun hg=>?_) (fun hg=>?_)<;>try exact svx)|refine svh (fun hb=>?_) (fun hb=>?_)|refine svb (fun b=>?_)|fail))
    refine R2.C (t1 _) ?_
    (repeat' (first|refine svz ⟨fun b hq=>?_⟩|refine svA ⟨?_⟩|refine svu ⟨fun u=>?_⟩|(refine svG (fun hg=>?_) (fun hg=>?_)<;>try exact svx)|refine svh (fun hb=>?_) (fun hb=>?_)|refine svb (fun b=>?_)|fail))
    refine R2.C (t2 _) ?_
    (repeat' (first|refine svz ⟨fun b hq=>?_⟩|refine svA ⟨?_⟩|refine svu ⟨fun u=>?_⟩|(refine svG (fun hg=>?_) (fun hg=>?_)<;>try exact svx)|refine svh (fun hb=>?_) (fun hb=>?_)|refine svb (fun b=>?_)|fail))
    exact fin_r (h' := h) ⟨rfl, rfl⟩
  · rw [show kpF V V2 id dx dy true = [] from rfl] at *
    rw [show joinJ (fun p q => p && !q) (visF V2 id) [] = NotJ (visF V2 id) [] from rfl] at t2
    unfold CH.enc
    dsimp only
    generalize NotJ (visF V2 id) [] = N0 at *
    have t2' := fun h => (t2 h).args (vs := [regE (visF V2 id), .agg [.val (.slice none 0 0)]]) (by unfold regE; exact (by (repeat (first | exact Wk.refl _ | exact Wk.nilr _ | exact Wk.nilm | apply Wk.aggc | apply Wk.tupc | exact Wk.aggn | exact Wk.tupn)); first | done | fail))
    refine ACalls.wk (Q := fun v h' => v = .agg [.val (.int .u32 (id)), .val (.slice none 0 0), .ro 4 (N0.map RC.enc)] ∧ h' = h) ?_ ?_
    · unfold encW regE at *
      refine ACalls.intro Tryz.func91 rfl Tryz.ntmps91 Tryz.results91 (Nat.le_of_ble_eq_true rfl) ?_
      (repeat' (first|refine svz ⟨fun b hq=>?_⟩|refine svA ⟨?_⟩|refine svu ⟨fun u=>?_⟩|(refine svG (fun hg=>?_) (fun hg=>?_)<;>try exact svx)|refine svh (fun hb=>?_) (fun hb=>?_)|refine svb (fun b=>?_)|fail))
      refine S.call ?_; refine (v2 _).mono ?_; rintro r h' ⟨rfl, hh⟩; subst hh
      (repeat' (first|refine svz ⟨fun b hq=>?_⟩|refine svA ⟨?_⟩|refine svu ⟨fun u=>?_⟩|(refine svG (fun hg=>?_) (fun hg=>?_)<;>try exact svx)|refine svh (fun hb=>?_) (fun hb=>?_)|refine svb (fun b=>?_)|fail))
      refine R2.C (t2' _) ?_
      (repeat' (first|refine svz ⟨fun b hq=>?_⟩|refine svA ⟨?_⟩|refine svu ⟨fun u=>?_⟩|(refine svG (fun hg=>?_) (fun hg=>?_)<;>try exact svx)|refine svh (fun hb=>?_) (fun hb=>?_)|refine svb (fun b=>?_)|fail))
      exact fin_r (h' := h) ⟨rfl, rfl⟩
    · rintro v h' ⟨rfl, rfl⟩
      exact ⟨_, (by (repeat (first | exact Wk.refl _ | exact Wk.nilr _ | exact Wk.nilm | apply Wk.aggc | apply Wk.tupc | exact Wk.aggn | exact Wk.tupn)); first | done | fail), rfl, rfl⟩
end Go.Proofs.YtfbegifmhgkpjaaGreat

/- Structs of numbers and bools: == and !=. No condition. -/
namespace Go.VM
open Go
set_option linter.unusedVariables false
set_option linter.unusedSimpArgs false
inductive Scl where
  | i (k : IntKind) (a b : Int)
  | b (a b : Bool)
def Scl.l : Scl → Value
  | .i k x _ => .int k x
  | .b x _ => .bool x
def Scl.r : Scl → Value
  | .i k _ z => .int k z
  | .b _ z => .bool z
def Scl.eq : Scl → Bool
  | .i _ x z => x == z
  | .b x z => x == z
def Scl.isI : Scl → Bool
  | .i _ _ _ => true
  | .b _ _ => false
def flatQ (P : Program) : Nat → List Field → List Bool → Bool
  | _, [], [] => true
  | i, f :: fs, s :: ss => !(f.name == "_") && (Nat.beq f.offset i && ((match valQ P f.type with | some (false, _) => true | _ => false) && ((match P.underlying f.type with | some (.int _) => s | some .bool => !s | _ => false) && flatQ P (i + 1) fs ss)))
  | _, _, _ => false
theorem eqQ {P : Program} {w : World} {d : Nat} : ∀ (fs : List Field) (L : List Scl) (i : Nat) (pre pre' : List Value), pre.length = i → pre'.length = i → flatQ P i fs (L.map Scl.isI) = true →
    (Op.eqFields (d + 1) (pre ++ L.map Scl.l).toArray (pre' ++ L.map Scl.r).toArray fs).run P w = .ok (L.all Scl.eq) w
  | [], [], i, pre, pre', _, _, _ => by simp [Op.eqFields]
  | [], _ :: _, i, pre, pre', _, _, hf => by cases hf
  | _ :: _, [], i, pre, pre', _, _, hf => by cases hf
  | f :: fs, s :: L, i, pre, pre', h1, h2, hf => by
    rw [List.map_cons] at hf
    unfold flatQ at hf
    simp only [Bool.and_eq_true, Bool.not_eq_true', beq_eq_false_iff_ne, ne_eq] at hf
    obtain ⟨f1, f2, f3, f4, f5⟩ := hf
    have f2 := Nat.eq_of_beq_eq_true f2
    obtain ⟨n, hv⟩ : ∃ n, valQ P f.type = some (false, n) := by
      split at f3
      · exact ⟨_, by assumption⟩
      · cases f3
    have hn := (valQ_spec hv).2.2 rfl
    subst hn
    have p1 : (part f.type (pre ++ (s :: L).map Scl.l).toArray f.offset).run P w = .ok s.l w := by
      rw [run_part hv (by simp [f2, h1]), f2]
      simp [List.drop_append, ← h1, mk]
    have p2 : (part f.type (pre' ++ (s :: L).map Scl.r).toArray f.offset).run P w = .ok s.r w := by
      rw [run_part hv (by simp [f2, h2]), f2]
      simp [List.drop_append, ← h2, mk]
    have ih := eqQ (P := P) (w := w) (d := d) fs L (i + 1) (pre ++ [s.l]) (pre' ++ [s.r]) (by simp [h1]) (by simp [h2]) f5
    simp only [List.append_assoc, List.singleton_append] at ih
    have he : (Op.equalIn (d + 1) f.type s.l s.r).run P w = .ok s.eq w := by
      cases s with
      | i k a b =>
        obtain ⟨k', hk⟩ : ∃ k', P.underlying f.type = some (.int k') := by
          split at f4
          · exact ⟨_, by assumption⟩
          · cases f4
          · cases f4
        exact run_equalIn_int (P := P) w d f.type k k' a b hk
      | b a b =>
        have hk : P.underlying f.type = some .bool := by
          split at f4
          · cases f4
          · assumption
          · cases f4
        exact run_equalIn_bool' (P := P) w d f.type a b hk
    unfold Op.eqFields
    rw [if_pos f1]
    simp only [Sem.run_bind, p1, p2, Result.andThen_ok, he]
    rw [List.all_cons]
    cases hs : s.eq with
    | true => simp [ih]
    | false => simp
class TEqS (P : Program) (t : Nat) (sh : outParam (List Bool)) : Prop where
  h : P.underlying t = some (.struct (P.fieldsOf t))
  s : P.stoodInHeld t = false
  g : P.eqGuardType P.depth t = false
  f : flatQ P 0 (P.fieldsOf t).toList sh = true
inductive IEqS : List AV → List AV → List Scl → Prop
  | nil : IEqS [] [] []
  | i {k : IntKind} {a b : Int} {x y : List AV} {L : List Scl} (h : IEqS x y L) : IEqS (.val (.int k a) :: x) (.val (.int k b) :: y) (.i k a b :: L)
  | b {a b : Bool} {x y : List AV} {L : List Scl} (h : IEqS x y L) : IEqS (.val (.bool a) :: x) (.val (.bool b) :: y) (.b a b :: L)
theorem IEqS.rel {m : Ghost} {x y : List AV} {L : List Scl} (h : IEqS x y L) : ∀ {cs ds : List Value}, RelL m x cs → RelL m y ds → cs = L.map Scl.l ∧ ds = L.map Scl.r := by
  induction h with
  | nil => intro cs ds h1 h2; simp only [RelL] at h1 h2; subst h1; subst h2; exact ⟨rfl, rfl⟩
  | i h ih =>
    intro cs ds h1 h2
    simp only [RelL, Rel] at h1 h2
    obtain ⟨c, r, rfl, ⟨rfl, _⟩, h1⟩ := h1
    obtain ⟨c', r', rfl, ⟨rfl, _⟩, h2⟩ := h2
    obtain ⟨rfl, rfl⟩ := ih h1 h2
    exact ⟨rfl, rfl⟩
  | b h ih =>
    intro cs ds h1 h2
    simp only [RelL, Rel] at h1 h2
    obtain ⟨c, r, rfl, ⟨rfl, _⟩, h1⟩ := h1
    obtain ⟨c', r', rfl, ⟨rfl, _⟩, h2⟩ := h2
    obtain ⟨rfl, rfl⟩ := ih h1 h2
    exact ⟨rfl, rfl⟩
section
variable {P : Program} {d : Option Nat} {ty : Nat} {pos : String} {af : Array Edge} {gd : Option (Nat × Bool)} {tm : List (Nat × AV)} {h : Heap} {x y : Operand} {xt yt : Nat} {l l' : List AV} {L : List Scl} {sh : List Bool} {p : Bool}
theorem eqS_key [ht : TEqS P xt sh] {m : Ghost} {cs ds : Array Value} (hx : RelL m l cs.toList) (hy : RelL m l' ds.toList) (he : IEqS l l' L) (hn : L.map Scl.isI = sh) (hp : L.all Scl.eq = p) (w : World) : (Op.equalIn (9999 + 1) xt (.agg cs) (.agg ds)).run P w = .ok p w := by
  obtain ⟨e1, e2⟩ := he.rel hx hy
  have key := eqQ (P := P) (w := w) (d := 9998) (P.fieldsOf xt).toList L 0 [] [] rfl rfl (by rw [hn]; exact ht.f)
  rw [List.nil_append, List.nil_append, ← e1, ← e2, hp] at key
  simp only [Array.toArray_toList] at key
  have k2 := run_equalIn_struct (P := P) w 9999 xt cs ds ht.h ht.s
  rw [key] at k2
  exact k2
theorem pur_eqlS [ht : TEqS P xt sh] (hx : evalA tm x = some (.agg l)) (hy : evalA tm y = some (.agg l')) (he : IEqS l l' L) (hn : L.map Scl.isI = sh) (hp : L.all Scl.eq = p) : PurV P ⟨d, .binOp .eql xt x y yt, ty, pos, af, gd⟩ tm h (.val (.bool p)) := fun m a w0 h1 h2 h3 => by
  have hx := h1.eval hx
  have hy := h1.eval hy
  simp only [Rel] at hx hy
  obtain ⟨cs, hx, hxr⟩ := hx
  obtain ⟨ds, hy, hyr⟩ := hy
  refine ⟨.bool p, by simp [Rel]; rfl, fun w => ?_⟩
  have k2 := eqS_key (ht := ht) hxr hyr he hn hp w
  have k3 := run_eql_struct (P := P) w xt cs ds
  rw [k2] at k3
  have k1 := run_eqGuard_agg (P := P) w .eql xt x y cs ds ht.g
  simp [execOp, hx, hy, k1, k3]
end
end Go.VM
