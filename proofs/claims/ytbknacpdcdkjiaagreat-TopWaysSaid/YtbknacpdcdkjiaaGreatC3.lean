import Derived.Test.YtbknacpdcdkjiaaGreatB15
import Derived.Test.YtbknacpdcdkjiaaGreatW0
import Derived.Test.YtbknacpdcdkjiaaGreatB7
import Derived.Test.YtbknacpdcdkjiaaGreatB13
import Derived.Test.YtbknacpdcdkjiaaGreatU4
/- The reference's spans, Rects, Box. No condition. -/
namespace Go.Proofs.YtbknacpdcdkjiaaGreat
open Go Go.VM
set_option maxRecDepth 100000
attribute [local irreducible] PurV Pur Step RL W D ACalls Then InBlock Fini
set_option linter.unusedVariables false
set_option linter.unusedSimpArgs false
set_option maxHeartbeats 20000000
end Go.Proofs.YtbknacpdcdkjiaaGreat

/- The reference's Rects and Box. No condition. -/
namespace Go.Proofs.YtbknacpdcdkjiaaGreat
open Go Go.VM
set_option maxRecDepth 100000
attribute [local irreducible] PurV Pur Step RL W D ACalls Then InBlock Fini
set_option linter.unusedVariables false
set_option linter.unusedSimpArgs false
set_option maxHeartbeats 20000000
end Go.Proofs.YtbknacpdcdkjiaaGreat

/- What the model of band.Of has: places, the one way to tell them, areas. No condition. -/
namespace Go.Proofs.YtbknacpdcdkjiaaGreat
open Go Go.VM
set_option maxRecDepth 100000
set_option linter.unusedVariables false
set_option linter.unusedSimpArgs false
/-! ### Places -/
theorem mem_flatB {B : List Bd} {r : RC} : r ∈ flatB B ↔ ∃ b ∈ B, ∃ p ∈ b.s, r = ⟨p.1, b.y, p.2 - p.1, b.h⟩ := by
  unfold flatB Bd.rects
  rw [List.mem_flatMap]
  constructor
  · rintro ⟨b, hb, hr⟩
    obtain ⟨p, hp, rfl⟩ := List.mem_map.1 hr
    exact ⟨b, hb, p, hp, rfl⟩
  · rintro ⟨b, hb, p, hp, rfl⟩
    exact ⟨b, hb, List.mem_map.2 ⟨p, hp, rfl⟩⟩
theorem hasR_iff {l : List RC} {x y : Int} : hasR l x y = true ↔ ∃ r ∈ l, r.has x y := by
  unfold hasR; rw [List.any_eq_true]; simp
theorem hasF_iff {l : List RC} {x y : Int} : hasF l x y = true ↔ ∃ r ∈ l, r.cnt ∧ r.has x y := by
  unfold hasF; rw [List.any_eq_true]; simp
theorem hasR_flatB {B : List Bd} {x y : Int} : hasR (flatB B) x y = true ↔ inB B x y := by
  rw [hasR_iff]
  unfold inB inS RC.has
  constructor
  · rintro ⟨r, hr, h⟩
    obtain ⟨b, hb, p, hp, rfl⟩ := mem_flatB.1 hr
    simp only at h
    exact ⟨b, hb, h.2.2.1, h.2.2.2, p, hp, h.1, by omega⟩
  · rintro ⟨b, hb, h1, h2, p, hp, h3, h4⟩
    exact ⟨_, mem_flatB.2 ⟨b, hb, p, hp, rfl⟩, h3, by simp only; omega, h1, h2⟩
theorem hasF_cnt {l : List RC} (h : ∀ r ∈ l, r.cnt) (x y : Int) : hasF l x y = hasR l x y := by
  rw [Bool.eq_iff_iff, hasF_iff, hasR_iff]
  exact ⟨fun ⟨r, h1, _, h2⟩ => ⟨r, h1, h2⟩, fun ⟨r, h1, h2⟩ => ⟨r, h1, h r h1, h2⟩⟩
theorem up_between {ys : List Int} (hu : Up_ ys) {v : Int} (h1 : ∃ a ∈ ys, a ≤ v) (h2 : ∃ c ∈ ys, v < c) : ∃ j, j + 1 < ys.length ∧ ys.getD j 0 ≤ v ∧ v < ys.getD (j + 1) 0 := by
  obtain ⟨c, hc, h2⟩ := h2
  obtain ⟨a, ha, h1⟩ := h1
  obtain ⟨k, hk, rfl⟩ := List.getElem_of_mem hc
  obtain ⟨m, hm, rfl⟩ := List.getElem_of_mem ha
  have hp := List.pairwise_iff_getElem.1 hu
  have hgd : ∀ i (hi : i < ys.length), ys.getD i 0 = ys[i] := fun i hi => by rw [List.getD_eq_getElem?_getD, List.getElem?_eq_getElem hi]; rfl
  induction k with
  | zero =>
    exfalso
    rcases Nat.eq_zero_or_pos m with e | e
    · subst e; omega
    · have := hp 0 m hk hm e; omega
  | succ k ih =>
    by_cases q : ys[k]'(by omega) ≤ v
    · exact ⟨k, hk, by rw [hgd k (by omega)]; exact q, by rw [hgd _ hk]; exact h2⟩
    · exact ih (by omega) (List.getElem_mem _) (by omega)
theorem up_le_of {ys : List Int} (hu : Up_ ys) {j : Nat} (hj : j + 1 < ys.length) {e v : Int} (he : e ∈ ys) (h1 : ys.getD j 0 ≤ v) (h2 : v < ys.getD (j + 1) 0) : e ≤ v ↔ e ≤ ys.getD j 0 := by
  obtain ⟨k, hk, rfl⟩ := List.getElem_of_mem he
  have hp := List.pairwise_iff_getElem.1 hu
  have hgd : ∀ i (hi : i < ys.length), ys.getD i 0 = ys[i] := fun i hi => by rw [List.getD_eq_getElem?_getD, List.getElem?_eq_getElem hi]; rfl
  rw [hgd j (by omega)] at h1 ⊢
  rw [hgd _ hj] at h2
  constructor
  · intro h
    rcases Nat.lt_trichotomy k j with q | q | q
    · have := hp k j hk (by omega) q; omega
    · subst q; exact Int.le_refl _
    · rcases Nat.lt_or_ge (j + 1) k with q2 | q2
      · have := hp (j + 1) k hj hk q2; omega
      · have : k = j + 1 := by omega
        subst this; omega
  · intro h; omega
theorem bandsF_spec (l : List RC) : CanB (bandsF l) ∧ ∀ x y, inB (bandsF l) x y ↔ hasF l x y = true := by
  unfold bandsF
  have hc : ∀ r ∈ cntL l, r.cnt := fun r hr => by simpa using (List.mem_filter.1 hr).2
  have hw : ∀ r ∈ cntL l, 0 < r.w := fun r hr => (hc r hr).1.2.1
  have hm : ∀ x y, hasF l x y = true ↔ ∃ r ∈ cntL l, r.has x y := fun x y => by
    rw [hasF_iff]
    unfold cntL
    constructor
    · rintro ⟨r, h1, h2, h3⟩; exact ⟨r, List.mem_filter.2 ⟨h1, by simpa using h2⟩, h3⟩
    · rintro ⟨r, h1, h3⟩; obtain ⟨h1, h2⟩ := List.mem_filter.1 h1; exact ⟨r, h1, by simpa using h2, h3⟩
  by_cases h0 : (edF (cntL l)).length = 0
  · rw [h0]
    refine ⟨show CanB [] from trivial, fun x y => ⟨fun h => absurd h not_inB_nil, fun h => ?_⟩⟩
    obtain ⟨r, hr, _⟩ := (hm x y).1 h
    have := mem_edF.2 ⟨r, hr, .inl rfl⟩
    rw [List.eq_nil_of_length_eq_zero h0] at this
    cases this
  · obtain ⟨h1, _, h3⟩ := bnd_spec (ys := edF (cntL l)) (f := rowS (cntL l)) (up_edF _) (fun y _ => (rowS_spec hw).1) ((edF (cntL l)).length - 1) (by omega)
    refine ⟨h1, fun x y => ?_⟩
    rw [h3, hm]
    constructor
    · rintro ⟨j, hj, k1, k2, k3⟩
      obtain ⟨r, hr, q1, q2, q3, q4⟩ := ((rowS_spec hw).2 x).1 k3
      refine ⟨r, hr, q1, q2, by omega, ?_⟩
      have := up_le_of (up_edF (cntL l)) (by omega) (mem_edF.2 ⟨r, hr, .inr rfl⟩) k1 k2
      omega
    · rintro ⟨r, hr, q1, q2, q3, q4⟩
      obtain ⟨j, hj, k1, k2⟩ := up_between (up_edF (cntL l)) ⟨r.y, mem_edF.2 ⟨r, hr, .inl rfl⟩, q3⟩ ⟨r.y + r.h, mem_edF.2 ⟨r, hr, .inr rfl⟩, q4⟩
      refine ⟨j, by omega, k1, k2, ((rowS_spec hw).2 x).2 ⟨r, hr, q1, q2, ?_, by omega⟩⟩
      exact (up_le_of (up_edF (cntL l)) hj (mem_edF.2 ⟨r, hr, .inl rfl⟩) k1 k2).1 q3
theorem has_ofF (l : List RC) (x y : Int) : hasR (ofF l) x y = hasF l x y := by
  rw [Bool.eq_iff_iff, ofF, hasR_flatB, (bandsF_spec l).2]
theorem ofF_flat {l : List RC} {B : List Bd} (hB : CanB B) (h : ∀ x y, hasF l x y = true ↔ inB B x y) : ofF l = flatB B := by
  obtain ⟨h1, h2⟩ := bandsF_spec l
  unfold ofF
  rw [canB_unique h1 hB fun x y => (h2 x y).trans (h x y)]
theorem ofF_eq {l m : List RC} : ofF l = ofF m ↔ ∀ x y, hasF l x y = hasF m x y := by
  constructor
  · intro e x y; rw [← has_ofF, ← has_ofF, e]
  · intro h
    obtain ⟨h1, h2⟩ := bandsF_spec m
    exact ofF_flat h1 fun x y => by rw [h, h2]
theorem ofF_cnt (l : List RC) : ∀ r ∈ ofF l, r.cnt := by
  unfold ofF bandsF
  by_cases h0 : (edF (cntL l)).length = 0
  · rw [h0]; intro r hr; cases hr
  · exact (bnd_all (fun r hr => by simpa using (List.mem_filter.1 hr).2) _ (by omega)).2.2
theorem ofF_ofF (l : List RC) : ofF (ofF l) = ofF l := ofF_eq.2 fun x y => by rw [hasF_cnt (ofF_cnt l), has_ofF]
/-! ### How they stand -/
def fol (a b : RC) : Prop := (a.y = b.y ∧ a.h = b.h ∧ a.x + a.w < b.x) ∨ a.y + a.h ≤ b.y
theorem flatB_fol : ∀ {B : List Bd}, CanB B → (flatB B).Pairwise fol
  | [], _ => .nil
  | b :: B, h => by
    show (b.rects ++ flatB B).Pairwise fol
    rw [List.pairwise_append]
    refine ⟨?_, flatB_fol h.tail, fun r hr q hq => ?_⟩
    · unfold Bd.rects
      rw [List.pairwise_map]
      exact h.head.s.apart.imp fun {p q} hpq => .inl ⟨rfl, rfl, by simp only; omega⟩
    · unfold Bd.rects at hr
      obtain ⟨p, hp, rfl⟩ := List.mem_map.1 hr
      obtain ⟨c, hc, p', _, rfl⟩ := mem_flatB.1 hq
      exact .inr (h.below c hc)
theorem ofF_fol (l : List RC) : (ofF l).Pairwise fol := flatB_fol (bandsF_spec l).1
theorem fol_y {l : List RC} (hc : ∀ r ∈ l, r.cnt) (h : l.Pairwise fol) : l.Pairwise fun a b => a.y ≤ b.y := by
  refine h.imp_of_mem fun {a b} ha hb hf => ?_
  have := (hc a ha).2.2.1
  rcases hf with hf | hf <;> omega
theorem ofF_y (l : List RC) : (ofF l).Pairwise fun a b => a.y ≤ b.y := fol_y (ofF_cnt l) (ofF_fol l)
end Go.Proofs.YtbknacpdcdkjiaaGreat

/- region's small closures. No condition. -/
namespace Go.Proofs.YtbknacpdcdkjiaaGreat
open Go Go.VM
set_option maxRecDepth 100000
attribute [local irreducible] PurV Pur Step RL W D ACalls Then InBlock Fini
set_option linter.unusedVariables false
set_option linter.unusedSimpArgs false
theorem meet1_c (p q : Bool) (h : Heap) : ACalls Tryz.prog 107 [.val (.bool p), .val (.bool q)] h (fun r h' => r = .val (.bool (p && q)) ∧ h' = h) := by
  refine ACalls.intro Tryz.func107 rfl Tryz.ntmps107 Tryz.results107 (Nat.le_of_ble_eq_true rfl) ?_
  cases p <;> cases q <;> ((repeat' (first|refine svz ⟨fun b hq=>?_⟩|refine svA ⟨?_⟩|refine svu ⟨fun u=>?_⟩|(refine svG (fun hg=>?_) (fun hg=>?_)<;>try exact svx)|refine svh (fun hb=>?_) (fun hb=>?_)|refine svb (fun b=>?_)|fail)); exact fin_r (h' := h) ⟨rfl, rfl⟩)
theorem minus1_c (p q : Bool) (h : Heap) : ACalls Tryz.prog 109 [.val (.bool p), .val (.bool q)] h (fun r h' => r = .val (.bool (p && !q)) ∧ h' = h) := by
  refine ACalls.intro Tryz.func109 rfl Tryz.ntmps109 Tryz.results109 (Nat.le_of_ble_eq_true rfl) ?_
  cases p <;> cases q <;> ((repeat' (first|refine svz ⟨fun b hq=>?_⟩|refine svA ⟨?_⟩|refine svu ⟨fun u=>?_⟩|(refine svG (fun hg=>?_) (fun hg=>?_)<;>try exact svx)|refine svh (fun hb=>?_) (fun hb=>?_)|refine svb (fun b=>?_)|fail)); exact fin_r (h' := h) ⟨rfl, rfl⟩)
theorem tellY_c (r : RC) (h : Heap) : ACalls Tryz.prog 143 [r.enc] h (fun v h' => v = .tup [.val (.int .i64 r.y), .val (.int .i64 r.h)] ∧ h' = h) := by
  refine ACalls.intro Tryz.func143 rfl Tryz.ntmps143 Tryz.results143 (Nat.le_of_ble_eq_true rfl) ?_
  (repeat' (first|refine svz ⟨fun b hq=>?_⟩|refine svA ⟨?_⟩|refine svu ⟨fun u=>?_⟩|(refine svG (fun hg=>?_) (fun hg=>?_)<;>try exact svx)|refine svh (fun hb=>?_) (fun hb=>?_)|refine svb (fun b=>?_)|fail))
  exact fin_r (h' := h) ⟨rfl, rfl⟩
theorem tellX_c (r : RC) (h : Heap) : ACalls Tryz.prog 145 [r.enc] h (fun v h' => v = .tup [.val (.int .i64 r.x), .val (.int .i64 r.w)] ∧ h' = h) := by
  refine ACalls.intro Tryz.func145 rfl Tryz.ntmps145 Tryz.results145 (Nat.le_of_ble_eq_true rfl) ?_
  (repeat' (first|refine svz ⟨fun b hq=>?_⟩|refine svA ⟨?_⟩|refine svu ⟨fun u=>?_⟩|(refine svG (fun hg=>?_) (fun hg=>?_)<;>try exact svx)|refine svh (fun hb=>?_) (fun hb=>?_)|refine svb (fun b=>?_)|fail))
  exact fin_r (h' := h) ⟨rfl, rfl⟩
theorem moved_c (a n d : Int) (h : Heap) (ha : -4000000 ≤ a ∧ a ≤ 4000000) (hn : -4000000 ≤ n ∧ n ≤ 4000000) (hd : -4000000 ≤ d ∧ d ≤ 4000000) : ACalls Tryz.prog 104 [.val (.int .i64 a), .val (.int .i64 n), .val (.int .i64 d)] h
    (fun v h' => v = .tup [.val (.int .i64 (max (a + d) (-1048576))), .val (.int .i64 (min (a + d + n) 1048576 - max (a + d) (-1048576)))] ∧ h' = h) := by
  refine ACalls.intro Tryz.func104 rfl Tryz.ntmps104 Tryz.results104 (Nat.le_of_ble_eq_true rfl) ?_
  (repeat' (first|refine svz ⟨fun b hq=>?_⟩|refine svA ⟨?_⟩|refine svu ⟨fun u=>?_⟩|(refine svG (fun hg=>?_) (fun hg=>?_)<;>try exact svx)|refine svh (fun hb=>?_) (fun hb=>?_)|refine svb (fun b=>?_)|fail))
  exact fin_r (h' := h) ⟨rfl, rfl⟩
end Go.Proofs.YtbknacpdcdkjiaaGreat

/- region's cuts. No condition. -/
namespace Go.Proofs.YtbknacpdcdkjiaaGreat
open Go Go.VM
set_option maxRecDepth 100000
attribute [local irreducible] PurV Pur Step RL W D ACalls Then InBlock Fini
set_option linter.unusedVariables false
set_option linter.unusedSimpArgs false
set_option maxHeartbeats 20000000
def stE (ab : RC → Int × Int) (l : List RC) : List Int := l.flatMap fun r => [(ab r).1, (ab r).1 + (ab r).2]
theorem len_stE (ab : RC → Int × Int) (l : List RC) : (stE ab l).length = 2 * l.length := by
  induction l with
  | nil => rfl
  | cons r l ih =>
    have e : stE ab (r :: l) = [(ab r).1, (ab r).1 + (ab r).2] ++ stE ab l := rfl
    rw [e, List.length_append, ih, List.length_cons]; simp; omega
theorem stE_snoc {ab : RC → Int × Int} {l : List RC} {k : Nat} {r : RC} (hx : l[k]? = some r) : stE ab (l.take (k + 1)) = stE ab (l.take k) ++ [(ab r).1, (ab r).1 + (ab r).2] := by
  unfold stE; rw [List.take_add_one, hx, List.flatMap_append]; simp
def listE (l : List RC) : AV := .ro 4 (l.map RC.enc)
theorem cuts_c (ab : RC → Int × Int) (fv : AV) (f : Nat) (caps : List AV) [TFun Tryz.prog f] (hF : Fv fv f caps) (P Q : List RC) (h : Heap) (hP : P.length ≤ 200000) (hQ : Q.length ≤ 200000)
    (hT : ∀ r, r ∈ P ++ Q → ∀ h, ACalls Tryz.prog f ([r.enc] ++ caps) h (fun v h' => v = .tup [.val (.int .i64 (ab r).1), .val (.int .i64 (ab r).2)] ∧ h' = h))
    (hM : ∀ r ∈ P ++ Q, (-4000000 ≤ (ab r).1 ∧ (ab r).1 ≤ 4000000) ∧ -4000000 ≤ (ab r).2 ∧ (ab r).2 ≤ 4000000) :
    ACalls Tryz.prog 142 [fv, .ro 1 [listE P, listE Q]] h (fun r h' => ∃ w, r = .val w ∧ h' = .own w 1 (ints .i64 (ddF (srt (stE ab P ++ stE ab Q)))) 3 :: h) := by
  refine ACalls.intro Tryz.func142 rfl Tryz.ntmps142 Tryz.results142 (Nat.le_of_ble_eq_true rfl) ?_
  (repeat' (first|refine svz ⟨fun b hq=>?_⟩|refine svA ⟨?_⟩|refine svu ⟨fun u=>?_⟩|(refine svG (fun hg=>?_) (fun hg=>?_)<;>try exact svx)|refine svh (fun hb=>?_) (fun hb=>?_)|refine svb (fun b=>?_)|fail))
  refine W.nil_ 1 3 ?_
  have hLs : ∀ (k : Nat) (L : List RC), [P, Q][k]? = some L → (∀ r ∈ L, r ∈ P ++ Q) ∧ L.length ≤ 200000 := by
    intro k L hk
    match k, hk with
    | 0, hk => simp at hk; subst hk; exact ⟨fun r hr => List.mem_append.2 (.inl hr), hP⟩
    | 1, hk => simp at hk; subst hk; exact ⟨fun r hr => List.mem_append.2 (.inr hr), hQ⟩
    | k + 2, hk => simp at hk
  refine W.loop (J := fun q : Nat × Value => ⟨43, [(14, .val (.int .i64 (q.1 : Int))), (13, .val (.int .i64 2)), (12, .ro 1 ([P, Q].map listE)), (5, .val q.2), (0, fv)], .own q.2 1 (ints .i64 (([P, Q].take q.1).flatMap (stE ab))) 3 :: h⟩)
    (Φ := fun q => q.1 ≤ 2) (μ := fun q => 2 - q.1) (0, .slice none 0 0) lee (Nat.zero_le _) ?_
  rintro ⟨i, v⟩ hi
  dsimp only at hi ⊢
  have hlen : (([P, Q].take i).flatMap (stE ab)).length ≤ 800000 := by
    match i, hi with
    | 0, _ => simp
    | 1, _ => simp [len_stE]; omega
    | 2, _ => simp [len_stE]; omega
  rcases Nat.lt_or_ge i 2 with hlt | hge
  · obtain ⟨L, hL⟩ : ∃ L, [P, Q][i]? = some L := ⟨_, List.getElem?_eq_getElem (by simpa using hlt)⟩
    obtain ⟨hL1, hL2⟩ := hLs i L hL
    have hs : ([P, Q].take (i + 1)).flatMap (stE ab) = ([P, Q].take i).flatMap (stE ab) ++ stE ab L := by rw [List.take_add_one, hL, List.flatMap_append]; simp
    have hil : i < [P, Q].length := by simpa using hlt
    generalize ([P, Q].take i).flatMap (stE ab) = E0 at *
    generalize [P, Q] = Ls at *
    (repeat' (first|refine svz ⟨fun b hq=>?_⟩|refine svA ⟨?_⟩|refine svu ⟨fun u=>?_⟩|(refine svG (fun hg=>?_) (fun hg=>?_)<;>try exact svx)|refine svh (fun hb=>?_) (fun hb=>?_)|refine svb (fun b=>?_)|fail))
    refine W.loop (J := fun q : Nat × Value => ⟨43, [(20, .val (.int .i64 (q.1 : Int))), (19, .val (.int .i64 (L.length : Int))), (18, .ro 4 (L.map RC.enc)), (14, .val (.int .i64 (i : Int))), (13, .val (.int .i64 2)), (12, .ro 1 (Ls.map listE)), (5, .val q.2), (0, fv)], .own q.2 1 (ints .i64 (E0 ++ stE ab (L.take q.1))) 3 :: h⟩)
      (Φ := fun q => q.1 ≤ L.length) (μ := fun q => L.length - q.1) (0, v) (by dsimp only; rw [List.take_zero, show stE ab [] = [] from rfl, List.append_nil]; exact lee) (Nat.zero_le _) ?_
    rintro ⟨k, v1⟩ hk
    dsimp only at hk ⊢
    have hlk : (E0 ++ stE ab (L.take k)).length ≤ 1200000 := by rw [List.length_append, len_stE, List.length_take]; omega
    rcases Nat.lt_or_ge k L.length with hkl | hkg
    · obtain ⟨r, hr⟩ : ∃ r, L[k]? = some r := ⟨_, List.getElem?_eq_getElem hkl⟩
      have hrm := hL1 r (List.mem_of_getElem? hr)
      obtain ⟨⟨m1, m2⟩, m3, m4⟩ := hM r hrm
      have hs2 := stE_snoc (ab := ab) hr
      have hs3 : ints .i64 (E0 ++ stE ab (L.take (k + 1))) = ints .i64 (E0 ++ stE ab (L.take k)) ++ ints .i64 [(ab r).1, (ab r).1 + (ab r).2] := by rw [hs2, ← List.append_assoc]; simp [ints]
      have hlk2 : E0.length + (stE ab (L.take k)).length ≤ 1200000 := by rw [← List.length_append]; exact hlk
      (repeat' (first|refine svz ⟨fun b hq=>?_⟩|refine svA ⟨?_⟩|refine svu ⟨fun u=>?_⟩|(refine svG (fun hg=>?_) (fun hg=>?_)<;>try exact svx)|refine svh (fun hb=>?_) (fun hb=>?_)|refine svb (fun b=>?_)|fail))
      refine S.callv hF ?_
      refine (hT r hrm _).mono ?_
      rintro r' h' ⟨rfl, hh⟩; subst hh
      (repeat' (first|refine svz ⟨fun b hq=>?_⟩|refine svA ⟨?_⟩|refine svu ⟨fun u=>?_⟩|(refine svG (fun hg=>?_) (fun hg=>?_)<;>try exact svx)|refine svh (fun hb=>?_) (fun hb=>?_)|refine svb (fun b=>?_)|fail))
      exact ⟨(k + 1, u), hkl, by dsimp only; rw [hs3]; exact lee, by dsimp only; omega⟩
    · rw [List.take_of_length_le hkg] at hlk ⊢
      (repeat' (first|refine svz ⟨fun b hq=>?_⟩|refine svA ⟨?_⟩|refine svu ⟨fun u=>?_⟩|(refine svG (fun hg=>?_) (fun hg=>?_)<;>try exact svx)|refine svh (fun hb=>?_) (fun hb=>?_)|refine svb (fun b=>?_)|fail))
      exact ⟨(i + 1, v1), hlt, by dsimp only; rw [hs]; exact lee, by dsimp only; omega⟩
  · have e : i = 2 := by omega
    subst e
    have e2 : ([P, Q].take 2).flatMap (stE ab) = stE ab P ++ stE ab Q := by simp
    rw [e2] at hlen ⊢
    (repeat' (first|refine svz ⟨fun b hq=>?_⟩|refine svA ⟨?_⟩|refine svu ⟨fun u=>?_⟩|(refine svG (fun hg=>?_) (fun hg=>?_)<;>try exact svx)|refine svh (fun hb=>?_) (fun hb=>?_)|refine svb (fun b=>?_)|fail))
    refine S.call ?_; refine (sort_c (stE ab P ++ stE ab Q) v h (by omega)).mono ?_; rintro r h' ⟨rfl, hh⟩; subst hh
    (repeat' (first|refine svz ⟨fun b hq=>?_⟩|refine svA ⟨?_⟩|refine svu ⟨fun u=>?_⟩|(refine svG (fun hg=>?_) (fun hg=>?_)<;>try exact svx)|refine svh (fun hb=>?_) (fun hb=>?_)|refine svb (fun b=>?_)|fail))
    refine S.call ?_
    refine (compact_c (srt (stE ab P ++ stE ab Q)) v h (by rw [(srt_perm _).length_eq]; omega)).mono ?_
    rintro r h' ⟨w, rfl, hh⟩; subst hh
    (repeat' (first|refine svz ⟨fun b hq=>?_⟩|refine svA ⟨?_⟩|refine svu ⟨fun u=>?_⟩|(refine svG (fun hg=>?_) (fun hg=>?_)<;>try exact svx)|refine svh (fun hb=>?_) (fun hb=>?_)|refine svb (fun b=>?_)|fail))
    exact fin_r (h' := _) ⟨w, rfl, rfl⟩
end Go.Proofs.YtbknacpdcdkjiaaGreat
