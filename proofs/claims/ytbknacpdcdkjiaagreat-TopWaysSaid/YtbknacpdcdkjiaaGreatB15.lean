/- band's methods: Rects, Same, Canon, Has, Area, Empty, Box. No condition. -/
import Derived.Test.YtbknacpdcdkjiaaGreatB14
import Derived.Scope
namespace Go.VM
open Go
set_option maxRecDepth 100000
def NoGoto (Q : Exit → St → Prop) : Exit → St → Prop
  | .goto _, _ => False
  | e, s => Q e s
theorem W.scope {P : Program} {c : Code} {Q : Exit → St → Prop} {s : St} (k : W none P c (NoGoto Q) s) : W none P (.scope c) Q s := by
  intro m0 w0 a w hs
  refine wpIn_wide.2 (wp_scope_straight (wp_mono (wpIn_wide.1 (k m0 w0 a w hs)) ?_))
  rintro e a' w' ⟨s', h1, h2⟩
  cases e with
  | goto l => exact h1.elim
  | _ => exact ⟨s', h1, h2⟩
end Go.VM
namespace Go.Proofs.YtbknacpdcdkjiaaGreat
open Go Go.VM
set_option maxRecDepth 100000
attribute [local irreducible] PurV Pur Step RL W D ACalls Then InBlock Fini
set_option linter.unusedVariables false
set_option linter.unusedSimpArgs false
set_option maxHeartbeats 20000000
def regE (l : List RC) : AV := .agg [.ro 4 (l.map RC.enc)]
theorem rects_c (l : List RC) (h : Heap) (hl : l.length ≤ 1000000000000) : ACalls Tryz.prog 103 [regE l] h (fun r h' => r = .ro 4 (l.map RC.enc) ∧ h' = h) := by
  unfold regE
  refine ACalls.intro Tryz.func103 rfl Tryz.ntmps103 Tryz.results103 (Nat.le_of_ble_eq_true rfl) ?_
  (repeat' (first|refine svz ⟨fun b hq=>?_⟩|refine svA ⟨?_⟩|refine svu ⟨fun u=>?_⟩|(refine svG (fun hg=>?_) (fun hg=>?_)<;>try exact svx)|refine svh (fun hb=>?_) (fun hb=>?_)|refine svb (fun b=>?_)|fail))
  refine S.call ?_; refine (clone_c l _ hl).mono ?_; rintro r h' ⟨rfl, hh⟩; subst hh
  (repeat' (first|refine svz ⟨fun b hq=>?_⟩|refine svA ⟨?_⟩|refine svu ⟨fun u=>?_⟩|(refine svG (fun hg=>?_) (fun hg=>?_)<;>try exact svx)|refine svh (fun hb=>?_) (fun hb=>?_)|refine svb (fun b=>?_)|fail))
  exact fin_r (h' := h) ⟨rfl, rfl⟩
theorem empty_c (l : List RC) (h : Heap) : ACalls Tryz.prog 64 [regE l] h (fun r h' => r = .val (.bool (decide (l.length = 0))) ∧ h' = h) := by
  unfold regE
  refine ACalls.intro Tryz.func64 rfl Tryz.ntmps64 Tryz.results64 (Nat.le_of_ble_eq_true rfl) ?_
  (repeat' (first|refine svz ⟨fun b hq=>?_⟩|refine svA ⟨?_⟩|refine svu ⟨fun u=>?_⟩|(refine svG (fun hg=>?_) (fun hg=>?_)<;>try exact svx)|refine svh (fun hb=>?_) (fun hb=>?_)|refine svb (fun b=>?_)|fail))
  refine fin_r (h' := h) ⟨?_, rfl⟩
  refine congrArg (fun b => AV.val (.bool b)) (decide_eq_decide.2 ?_)
  omega
def hasR (l : List RC) (x y : Int) : Bool := l.any fun r => decide (r.has x y)
theorem hasR_none {l : List RC} {x y : Int} (h : ∀ r ∈ l, ¬ r.has x y) : hasR l x y = false := by
  unfold hasR; rw [List.any_eq_false]; intro r hr; simpa using h r hr
theorem bhas_c (l : List RC) (x y : Int) (h : Heap) (hl : l.length ≤ 1000000000000) (hcn : ∀ r ∈ l, r.cnt) (hsy : l.Pairwise fun a b => a.y ≤ b.y) :
    ACalls Tryz.prog 49 [regE l, .val (.int .i64 x), .val (.int .i64 y)] h (fun v h' => v = .val (.bool (hasR l x y)) ∧ h' = h) := by
  unfold regE
  refine ACalls.intro Tryz.func49 rfl Tryz.ntmps49 Tryz.results49 (Nat.le_of_ble_eq_true rfl) ?_
  (repeat' (first|refine svz ⟨fun b hq=>?_⟩|refine svA ⟨?_⟩|refine svu ⟨fun u=>?_⟩|(refine svG (fun hg=>?_) (fun hg=>?_)<;>try exact svx)|refine svh (fun hb=>?_) (fun hb=>?_)|refine svb (fun b=>?_)|fail))
  refine W.scope ?_
  (repeat' (first|refine svz ⟨fun b hq=>?_⟩|refine svA ⟨?_⟩|refine svu ⟨fun u=>?_⟩|(refine svG (fun hg=>?_) (fun hg=>?_)<;>try exact svx)|refine svh (fun hb=>?_) (fun hb=>?_)|refine svb (fun b=>?_)|fail))
  refine W.label ?_
  (repeat' (first|refine svz ⟨fun b hq=>?_⟩|refine svA ⟨?_⟩|refine svu ⟨fun u=>?_⟩|(refine svG (fun hg=>?_) (fun hg=>?_)<;>try exact svx)|refine svh (fun hb=>?_) (fun hb=>?_)|refine svb (fun b=>?_)|fail))
  refine W.loop (J := fun k : Nat => ⟨46, [(13, .val (.int .i64 (k : Int))), (12, .val (.int .i64 (l.length : Int))), (11, .ro 4 (l.map RC.enc)), (7, .val (.bool false)), (1, .val (.int .i64 x)), (2, .val (.int .i64 y))], h⟩)
    (Φ := fun k => k ≤ l.length ∧ ∀ r ∈ l.take k, ¬ r.has x y) (μ := fun k => l.length - k) 0 lee ⟨Nat.zero_le _, by simp⟩ ?_
  rintro k ⟨hk, hn⟩
  rcases Nat.lt_or_ge k l.length with hlt | hge
  · obtain ⟨r, hx⟩ : ∃ r, l[k]? = some r := ⟨_, List.getElem?_eq_getElem hlt⟩
    have hr : r ∈ l := List.mem_of_getElem? hx
    obtain ⟨⟨a1, a2, a3⟩, ⟨a4, a5, a6⟩⟩ := hcn r hr
    have hsn : ¬ r.has x y → ∀ q ∈ l.take (k + 1), ¬ q.has x y := fun hh q hq => by
      rw [List.take_add_one, hx] at hq
      rcases List.mem_append.1 hq with hq | hq
      · exact hn q hq
      · rw [List.mem_singleton.1 hq]; exact hh
    by_cases h1 : y < r.y
    · have hno : hasR l x y = false := hasR_none fun q hq => by
        rw [← List.take_append_drop k l] at hq
        rcases List.mem_append.1 hq with hq | hq
        · exact hn q hq
        · have : r.y ≤ q.y := by
            rw [drop_at hx] at hq
            rcases List.mem_cons.1 hq with rfl | hq
            · exact Int.le_refl _
            · have hp := hsy.sublist (List.drop_sublist k l)
              rw [drop_at hx] at hp
              exact (List.pairwise_cons.1 hp).1 q hq
          unfold RC.has; omega
      rw [hno]
      (repeat' (first|refine svz ⟨fun b hq=>?_⟩|refine svA ⟨?_⟩|refine svu ⟨fun u=>?_⟩|(refine svG (fun hg=>?_) (fun hg=>?_)<;>try exact svx)|refine svh (fun hb=>?_) (fun hb=>?_)|refine svb (fun b=>?_)|fail))
      show Fini _ _ _ _ _
      exact fin_r (h' := _) ⟨rfl, rfl⟩
    by_cases h2 : r.y + r.h ≤ y
    · (repeat' (first|refine svz ⟨fun b hq=>?_⟩|refine svA ⟨?_⟩|refine svu ⟨fun u=>?_⟩|(refine svG (fun hg=>?_) (fun hg=>?_)<;>try exact svx)|refine svh (fun hb=>?_) (fun hb=>?_)|refine svb (fun b=>?_)|fail))
      exact ⟨k + 1, ⟨hlt, hsn (by unfold RC.has; omega)⟩, lee, by omega⟩
    by_cases h3 : r.x + r.w ≤ x
    · (repeat' (first|refine svz ⟨fun b hq=>?_⟩|refine svA ⟨?_⟩|refine svu ⟨fun u=>?_⟩|(refine svG (fun hg=>?_) (fun hg=>?_)<;>try exact svx)|refine svh (fun hb=>?_) (fun hb=>?_)|refine svb (fun b=>?_)|fail))
      exact ⟨k + 1, ⟨hlt, hsn (by unfold RC.has; omega)⟩, lee, by omega⟩
    by_cases h4 : r.x ≤ x
    · have hyes : hasR l x y = true := List.any_eq_true.2 ⟨r, hr, decide_eq_true (by unfold RC.has; omega)⟩
      rw [hyes]
      (repeat' (first|refine svz ⟨fun b hq=>?_⟩|refine svA ⟨?_⟩|refine svu ⟨fun u=>?_⟩|(refine svG (fun hg=>?_) (fun hg=>?_)<;>try exact svx)|refine svh (fun hb=>?_) (fun hb=>?_)|refine svb (fun b=>?_)|fail))
      show Fini _ _ _ _ _
      exact fin_r (h' := _) ⟨rfl, rfl⟩
    · (repeat' (first|refine svz ⟨fun b hq=>?_⟩|refine svA ⟨?_⟩|refine svu ⟨fun u=>?_⟩|(refine svG (fun hg=>?_) (fun hg=>?_)<;>try exact svx)|refine svh (fun hb=>?_) (fun hb=>?_)|refine svb (fun b=>?_)|fail))
      exact ⟨k + 1, ⟨hlt, hsn (by unfold RC.has; omega)⟩, lee, by omega⟩
  · rw [List.take_of_length_le hge] at hn
    rw [hasR_none hn]
    (repeat' (first|refine svz ⟨fun b hq=>?_⟩|refine svA ⟨?_⟩|refine svu ⟨fun u=>?_⟩|(refine svG (fun hg=>?_) (fun hg=>?_)<;>try exact svx)|refine svh (fun hb=>?_) (fun hb=>?_)|refine svb (fun b=>?_)|fail))
    show Fini _ _ _ _ _
    exact fin_r (h' := _) ⟨rfl, rfl⟩
def minX (a : Int) (l : List RC) : Int := l.foldl (fun m r => min m r.x) a
def maxX (a : Int) (l : List RC) : Int := l.foldl (fun m r => max m (r.x + r.w)) a
def boxF (l : List RC) : RC := match l with
  | [] => ⟨0, 0, 0, 0⟩
  | f :: l' => let e := (f :: l').getLastD f; ⟨minX f.x (f :: l'), f.y, maxX (f.x + f.w) (f :: l') - minX f.x (f :: l'), e.y + e.h - f.y⟩
theorem minX_snoc (a : Int) (l : List RC) (r : RC) : minX a (l ++ [r]) = min (minX a l) r.x := by unfold minX; rw [List.foldl_append]; rfl
theorem maxX_snoc (a : Int) (l : List RC) (r : RC) : maxX a (l ++ [r]) = max (maxX a l) (r.x + r.w) := by unfold maxX; rw [List.foldl_append]; rfl
theorem minX_in {a : Int} (ha : InM a) : ∀ (l : List RC), (∀ r ∈ l, r.cnt) → InM (minX a l)
  | [], _ => ha
  | r :: l, h => by
    obtain ⟨⟨h1, h2, h3⟩, _⟩ := h r (List.mem_cons_self ..)
    have : InM (min a r.x) := by unfold InM at *; omega
    exact minX_in this l fun q hq => h q (.tail _ hq)
theorem maxX_in {a : Int} (ha : InM a) : ∀ (l : List RC), (∀ r ∈ l, r.cnt) → InM (maxX a l)
  | [], _ => ha
  | r :: l, h => by
    obtain ⟨⟨h1, h2, h3⟩, _⟩ := h r (List.mem_cons_self ..)
    have : InM (max a (r.x + r.w)) := by unfold InM at *; omega
    exact maxX_in this l fun q hq => h q (.tail _ hq)
theorem bbox_c (l : List RC) (h : Heap) (hl : l.length ≤ 1000000000000) (hcn : ∀ r ∈ l, r.cnt) : ACalls Tryz.prog 169 [regE l] h (fun v h' => v = (boxF l).enc ∧ h' = h) := by
  unfold regE
  refine ACalls.intro Tryz.func169 rfl Tryz.ntmps169 Tryz.results169 (Nat.le_of_ble_eq_true rfl) ?_
  by_cases h0 : l = []
  · subst h0
    (repeat' (first|refine svz ⟨fun b hq=>?_⟩|refine svA ⟨?_⟩|refine svu ⟨fun u=>?_⟩|(refine svG (fun hg=>?_) (fun hg=>?_)<;>try exact svx)|refine svh (fun hb=>?_) (fun hb=>?_)|refine svb (fun b=>?_)|fail))
    exact fin_r (h' := h) ⟨rfl, rfl⟩
  have hpos : 0 < l.length := List.length_pos_iff.2 h0
  obtain ⟨f, hf⟩ : ∃ f, l[0]? = some f := ⟨_, List.getElem?_eq_getElem hpos⟩
  obtain ⟨z, hz⟩ : ∃ z, l[((l.length : Int) - 1).toNat]? = some z := ⟨_, List.getElem?_eq_getElem (by omega)⟩
  obtain ⟨⟨a1, a2, a3⟩, ⟨a4, a5, a6⟩⟩ := hcn f (List.mem_of_getElem? hf)
  obtain ⟨⟨c1, c2, c3⟩, ⟨c4, c5, c6⟩⟩ := hcn z (List.mem_of_getElem? hz)
  have hbox : boxF l = ⟨minX f.x l, f.y, maxX (f.x + f.w) l - minX f.x l, z.y + z.h - f.y⟩ := by
    cases l with
    | nil => exact absurd rfl h0
    | cons g l =>
      simp only [List.getElem?_cons_zero, Option.some.injEq] at hf
      subst hf
      have : (g :: l).getLastD g = z := by
        rw [List.getLastD_eq_getLast?, List.getLast?_eq_getElem?]
        rw [show (g :: l).length - 1 = ((((g :: l).length : Nat) : Int) - 1).toNat by omega, hz]; rfl
      unfold boxF
      simp only [this]
  (repeat' (first|refine svz ⟨fun b hq=>?_⟩|refine svA ⟨?_⟩|refine svu ⟨fun u=>?_⟩|(refine svG (fun hg=>?_) (fun hg=>?_)<;>try exact svx)|refine svh (fun hb=>?_) (fun hb=>?_)|refine svb (fun b=>?_)|fail))
  revert b; intro b2
  refine R2.alloc2 (fun b3 b4 => ?_)
  (repeat' (first|refine svz ⟨fun b hq=>?_⟩|refine svA ⟨?_⟩|refine svu ⟨fun u=>?_⟩|(refine svG (fun hg=>?_) (fun hg=>?_)<;>try exact svx)|refine svh (fun hb=>?_) (fun hb=>?_)|refine svb (fun b=>?_)|fail))
  refine W.loop (J := fun k : Nat => ⟨67, [(36, .val (.int .i64 (k : Int))), (35, .val (.int .i64 (l.length : Int))), (34, .ro 4 (l.map RC.enc)), (6, .val (.int .i64 (maxX (f.x + f.w) (l.take k)))), (5, .val (.int .i64 (minX f.x (l.take k)))), (4, .val (.pointer (some ⟨b4, 0, none⟩))), (3, .val (.pointer (some ⟨b3, 0, none⟩))), (2, .val (.pointer (some ⟨b2, 0, none⟩)))],
      .box b3 [.val (.int .i64 f.x), .val (.int .i64 f.y), .val (.int .i64 f.w), .val (.int .i64 f.h)] 200 :: .box b4 [.val (.int .i64 z.x), .val (.int .i64 z.y), .val (.int .i64 z.w), .val (.int .i64 z.h)] 200 :: .box b2 [.val (.int .i64 0), .val (.int .i64 0), .val (.int .i64 0), .val (.int .i64 0)] 200 :: h⟩)
    (Φ := fun k => k ≤ l.length) (μ := fun k => l.length - k) 0 lee (Nat.zero_le _) ?_
  intro k hk
  have hm1 := minX_in (a := f.x) ⟨a1, by omega⟩ (l.take k) fun r hr => hcn r (List.mem_of_mem_take hr)
  have hm2 := maxX_in (a := f.x + f.w) ⟨by omega, a3⟩ (l.take k) fun r hr => hcn r (List.mem_of_mem_take hr)
  rcases Nat.lt_or_ge k l.length with hlt | hge
  · obtain ⟨r, hx⟩ : ∃ r, l[k]? = some r := ⟨_, List.getElem?_eq_getElem hlt⟩
    obtain ⟨⟨d1, d2, d3⟩, ⟨d4, d5, d6⟩⟩ := hcn r (List.mem_of_getElem? hx)
    have e1 : minX f.x (l.take (k + 1)) = min (minX f.x (l.take k)) r.x := by rw [List.take_add_one, hx]; exact minX_snoc ..
    have e2 : maxX (f.x + f.w) (l.take (k + 1)) = max (maxX (f.x + f.w) (l.take k)) (r.x + r.w) := by rw [List.take_add_one, hx]; exact maxX_snoc ..
    (repeat' (first|refine svz ⟨fun b hq=>?_⟩|refine svA ⟨?_⟩|refine svu ⟨fun u=>?_⟩|(refine svG (fun hg=>?_) (fun hg=>?_)<;>try exact svx)|refine svh (fun hb=>?_) (fun hb=>?_)|refine svb (fun b=>?_)|fail))
    exact ⟨k + 1, hlt, by rw [e1, e2]; exact lee, by omega⟩
  · rw [List.take_of_length_le hge] at hm1 hm2 ⊢
    rw [hbox]
    obtain ⟨m1, m2⟩ := hm1
    obtain ⟨m3, m4⟩ := hm2
    (repeat' (first|refine svz ⟨fun b hq=>?_⟩|refine svA ⟨?_⟩|refine svu ⟨fun u=>?_⟩|(refine svG (fun hg=>?_) (fun hg=>?_)<;>try exact svx)|refine svh (fun hb=>?_) (fun hb=>?_)|refine svb (fun b=>?_)|fail))
    exact fin_r (h' := h) ⟨rfl, rfl⟩
end Go.Proofs.YtbknacpdcdkjiaaGreat
