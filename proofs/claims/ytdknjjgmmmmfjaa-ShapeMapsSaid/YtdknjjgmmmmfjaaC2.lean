import Derived.Test.YtdknjjgmmmmfjaaW0
import Derived.Test.YtdknjjgmmmmfjaaB17
import Derived.Test.YtdknjjgmmmmfjaaB1
/- What the model of band.Of has: places, the one way to tell them, areas. No condition. -/
namespace Go.Proofs.Ytdknjjgmmmmfjaa
open Go Go.VM
set_option linter.unusedVariables false
set_option linter.unusedSimpArgs false
/-! ### Places -/
theorem mem_flatB {B : List Bd} {r : RC} : r ∈ flatB B ↔ ∃ b ∈ B, ∃ p ∈ b.s, r = ⟨p.1, b.y, p.2 - p.1, b.h⟩ := by
  unfold flatB Bd.rects
  rw [List.mem_flatMap]
  constructor
  · rintro ⟨b, hb, hr⟩
    obtain ⟨p, hp, rfl⟩ := List.mem_map.1 hr
    exact ⟨b, hb, p, hp, rfl⟩
  · rintro ⟨b, hb, p, hp, rfl⟩
    exact ⟨b, hb, List.mem_map.2 ⟨p, hp, rfl⟩⟩
theorem hasR_iff {l : List RC} {x y : Int} : hasR l x y = true ↔ ∃ r ∈ l, r.has x y := by
  unfold hasR; rw [List.any_eq_true]; simp
theorem hasF_iff {l : List RC} {x y : Int} : hasF l x y = true ↔ ∃ r ∈ l, r.cnt ∧ r.has x y := by
  unfold hasF; rw [List.any_eq_true]; simp
theorem hasR_flatB {B : List Bd} {x y : Int} : hasR (flatB B) x y = true ↔ inB B x y := by
  rw [hasR_iff]
  unfold inB inS RC.has
  constructor
  · rintro ⟨r, hr, h⟩
    obtain ⟨b, hb, p, hp, rfl⟩ := mem_flatB.1 hr
    simp only at h
    exact ⟨b, hb, h.2.2.1, h.2.2.2, p, hp, h.1, by omega⟩
  · rintro ⟨b, hb, h1, h2, p, hp, h3, h4⟩
    exact ⟨_, mem_flatB.2 ⟨b, hb, p, hp, rfl⟩, h3, by simp only; omega, h1, h2⟩
theorem hasF_cnt {l : List RC} (h : ∀ r ∈ l, r.cnt) (x y : Int) : hasF l x y = hasR l x y := by
  rw [Bool.eq_iff_iff, hasF_iff, hasR_iff]
  exact ⟨fun ⟨r, h1, _, h2⟩ => ⟨r, h1, h2⟩, fun ⟨r, h1, h2⟩ => ⟨r, h1, h r h1, h2⟩⟩
/-- Between which edges a number lies. -/
theorem up_between {ys : List Int} (hu : Up_ ys) {v : Int} (h1 : ∃ a ∈ ys, a ≤ v) (h2 : ∃ c ∈ ys, v < c) : ∃ j, j + 1 < ys.length ∧ ys.getD j 0 ≤ v ∧ v < ys.getD (j + 1) 0 := by
  obtain ⟨c, hc, h2⟩ := h2
  obtain ⟨a, ha, h1⟩ := h1
  obtain ⟨k, hk, rfl⟩ := List.getElem_of_mem hc
  obtain ⟨m, hm, rfl⟩ := List.getElem_of_mem ha
  have hp := List.pairwise_iff_getElem.1 hu
  have hgd : ∀ i (hi : i < ys.length), ys.getD i 0 = ys[i] := fun i hi => by rw [List.getD_eq_getElem?_getD, List.getElem?_eq_getElem hi]; rfl
  induction k with
  | zero =>
    exfalso
    rcases Nat.eq_zero_or_pos m with e | e
    · subst e; omega
    · have := hp 0 m hk hm e; omega
  | succ k ih =>
    by_cases q : ys[k]'(by omega) ≤ v
    · exact ⟨k, hk, by rw [hgd k (by omega)]; exact q, by rw [hgd _ hk]; exact h2⟩
    · exact ih (by omega) (List.getElem_mem _) (by omega)
theorem up_le_of {ys : List Int} (hu : Up_ ys) {j : Nat} (hj : j + 1 < ys.length) {e v : Int} (he : e ∈ ys) (h1 : ys.getD j 0 ≤ v) (h2 : v < ys.getD (j + 1) 0) : e ≤ v ↔ e ≤ ys.getD j 0 := by
  obtain ⟨k, hk, rfl⟩ := List.getElem_of_mem he
  have hp := List.pairwise_iff_getElem.1 hu
  have hgd : ∀ i (hi : i < ys.length), ys.getD i 0 = ys[i] := fun i hi => by rw [List.getD_eq_getElem?_getD, List.getElem?_eq_getElem hi]; rfl
  rw [hgd j (by omega)] at h1 ⊢
  rw [hgd _ hj] at h2
  constructor
  · intro h
    rcases Nat.lt_trichotomy k j with q | q | q
    · have := hp k j hk (by omega) q; omega
    · subst q; exact Int.le_refl _
    · rcases Nat.lt_or_ge (j + 1) k with q2 | q2
      · have := hp (j + 1) k hj hk q2; omega
      · have : k = j + 1 := by omega
        subst this; omega
  · intro h; omega
theorem bandsF_spec (l : List RC) : CanB (bandsF l) ∧ ∀ x y, inB (bandsF l) x y ↔ hasF l x y = true := by
  unfold bandsF
  have hc : ∀ r ∈ cntL l, r.cnt := fun r hr => by simpa using (List.mem_filter.1 hr).2
  have hw : ∀ r ∈ cntL l, 0 < r.w := fun r hr => (hc r hr).1.2.1
  have hm : ∀ x y, hasF l x y = true ↔ ∃ r ∈ cntL l, r.has x y := fun x y => by
    rw [hasF_iff]
    unfold cntL
    constructor
    · rintro ⟨r, h1, h2, h3⟩; exact ⟨r, List.mem_filter.2 ⟨h1, by simpa using h2⟩, h3⟩
    · rintro ⟨r, h1, h3⟩; obtain ⟨h1, h2⟩ := List.mem_filter.1 h1; exact ⟨r, h1, by simpa using h2, h3⟩
  by_cases h0 : (edF (cntL l)).length = 0
  · rw [h0]
    refine ⟨show CanB [] from trivial, fun x y => ⟨fun h => absurd h not_inB_nil, fun h => ?_⟩⟩
    obtain ⟨r, hr, _⟩ := (hm x y).1 h
    have := mem_edF.2 ⟨r, hr, .inl rfl⟩
    rw [List.eq_nil_of_length_eq_zero h0] at this
    cases this
  · obtain ⟨h1, _, h3⟩ := bnd_spec (ys := edF (cntL l)) (f := rowS (cntL l)) (up_edF _) (fun y _ => (rowS_spec hw).1) ((edF (cntL l)).length - 1) (by omega)
    refine ⟨h1, fun x y => ?_⟩
    rw [h3, hm]
    constructor
    · rintro ⟨j, hj, k1, k2, k3⟩
      obtain ⟨r, hr, q1, q2, q3, q4⟩ := ((rowS_spec hw).2 x).1 k3
      refine ⟨r, hr, q1, q2, by omega, ?_⟩
      have := up_le_of (up_edF (cntL l)) (by omega) (mem_edF.2 ⟨r, hr, .inr rfl⟩) k1 k2
      omega
    · rintro ⟨r, hr, q1, q2, q3, q4⟩
      obtain ⟨j, hj, k1, k2⟩ := up_between (up_edF (cntL l)) ⟨r.y, mem_edF.2 ⟨r, hr, .inl rfl⟩, q3⟩ ⟨r.y + r.h, mem_edF.2 ⟨r, hr, .inr rfl⟩, q4⟩
      refine ⟨j, by omega, k1, k2, ((rowS_spec hw).2 x).2 ⟨r, hr, q1, q2, ?_, by omega⟩⟩
      exact (up_le_of (up_edF (cntL l)) hj (mem_edF.2 ⟨r, hr, .inl rfl⟩) k1 k2).1 q3
theorem has_ofF (l : List RC) (x y : Int) : hasR (ofF l) x y = hasF l x y := by
  rw [Bool.eq_iff_iff, ofF, hasR_flatB, (bandsF_spec l).2]
theorem ofF_flat {l : List RC} {B : List Bd} (hB : CanB B) (h : ∀ x y, hasF l x y = true ↔ inB B x y) : ofF l = flatB B := by
  obtain ⟨h1, h2⟩ := bandsF_spec l
  unfold ofF
  rw [canB_unique h1 hB fun x y => (h2 x y).trans (h x y)]
theorem ofF_eq {l m : List RC} : ofF l = ofF m ↔ ∀ x y, hasF l x y = hasF m x y := by
  constructor
  · intro e x y; rw [← has_ofF, ← has_ofF, e]
  · intro h
    obtain ⟨h1, h2⟩ := bandsF_spec m
    exact ofF_flat h1 fun x y => by rw [h, h2]
theorem ofF_cnt (l : List RC) : ∀ r ∈ ofF l, r.cnt := by
  unfold ofF bandsF
  by_cases h0 : (edF (cntL l)).length = 0
  · rw [h0]; intro r hr; cases hr
  · exact (bnd_all (fun r hr => by simpa using (List.mem_filter.1 hr).2) _ (by omega)).2.2
theorem ofF_ofF (l : List RC) : ofF (ofF l) = ofF l := ofF_eq.2 fun x y => by rw [hasF_cnt (ofF_cnt l), has_ofF]
theorem up_unique : ∀ {a b : List Int}, Up_ a → Up_ b → (∀ x, x ∈ a ↔ x ∈ b) → a = b := fun {a b} ha hb h => by
  refine sorted_perm_eq ?_ (ha.imp fun h => by omega) (hb.imp fun h => by omega)
  rw [List.perm_ext_iff_of_nodup (ha.imp fun h => by omega) (hb.imp fun h => by omega)]
  exact h
theorem ysF_edF (l : List RC) : ysF l.reverse = edF (cntL l) := up_unique (up_ysF _) (up_edF _) fun x => by
  rw [mem_ysF, mem_edF]
  unfold cntL
  constructor
  · rintro ⟨r, h1, h2, h3⟩; exact ⟨r, List.mem_filter.2 ⟨List.mem_reverse.1 h1, by simpa using h2⟩, h3⟩
  · rintro ⟨r, h1, h3⟩; obtain ⟨h1, h2⟩ := List.mem_filter.1 h1; exact ⟨r, List.mem_reverse.2 h1, by simpa using h2, h3⟩
theorem rowR_rowS (l : List RC) (y : Int) : rowR l y = rowS (cntL l) y := by
  have hc : ∀ r ∈ cntL l, r.cnt := fun r hr => by simpa using (List.mem_filter.1 hr).2
  have hw : ∀ r ∈ cntL l, 0 < r.w := fun r hr => (hc r hr).1.2.1
  obtain ⟨g1, g2⟩ := rowS_spec (y := y) hw
  refine canS_unique (rowR_can l y) g1 fun x => ?_
  have hm : inS (rowS (cntL l) y) x ↔ hasF l x y = true := by
    rw [g2, hasF_iff]
    unfold cntL
    constructor
    · rintro ⟨r, h1, h3⟩; obtain ⟨h1, h2⟩ := List.mem_filter.1 h1; exact ⟨r, h1, by simpa using h2, h3⟩
    · rintro ⟨r, h1, h2, h3⟩; exact ⟨r, List.mem_filter.2 ⟨h1, by simpa using h2⟩, h3⟩
  rw [hm]
  unfold rowR
  have hmem : ∀ r ∈ l, r.cnt → r.x ∈ xsF l.reverse ∧ r.x + r.w ∈ xsF l.reverse := fun r hr hcr =>
    ⟨mem_xsF.2 ⟨r, List.mem_reverse.2 hr, hcr, .inl rfl⟩, mem_xsF.2 ⟨r, List.mem_reverse.2 hr, hcr, .inr rfl⟩⟩
  by_cases h0 : (xsF l.reverse).length = 0
  · have e := List.eq_nil_of_length_eq_zero h0
    rw [e]
    refine ⟨fun h => absurd h not_inS_nil, fun h => ?_⟩
    obtain ⟨r, hr, hcr, _⟩ := hasF_iff.1 h
    have := (hmem r hr hcr).1
    rw [e] at this; cases this
  · rw [(cellS_spec (up_xsF l.reverse) ((xsF l.reverse).length - 1) (by omega)).2.2]
    have hu := up_xsF l.reverse
    constructor
    · rintro ⟨j, hj, k0, k1, k2⟩
      obtain ⟨r, hr, hcr, q1, q2, q3, q4⟩ := hasF_iff.1 k0
      refine hasF_iff.2 ⟨r, hr, hcr, by omega, ?_, q3, q4⟩
      have := up_le_of hu (by omega) (hmem r hr hcr).2 k1 k2
      omega
    · intro h
      obtain ⟨r, hr, hcr, q1, q2, q3, q4⟩ := hasF_iff.1 h
      obtain ⟨j, hj, k1, k2⟩ := up_between hu ⟨r.x, (hmem r hr hcr).1, q1⟩ ⟨r.x + r.w, (hmem r hr hcr).2, q2⟩
      refine ⟨j, by omega, hasF_iff.2 ⟨r, hr, hcr, ?_, by omega, q3, q4⟩, k1, k2⟩
      exact (up_le_of hu hj (hmem r hr hcr).1 k1 k2).1 q1
theorem rectsF_ofF (l : List RC) : rectsF l = ofF l := by
  unfold rectsF ofF bandsF
  rw [ysF_edF, show rowR l = rowS (cntL l) from funext (rowR_rowS l)]
/-! ### How they stand -/
def fol (a b : RC) : Prop := (a.y = b.y ∧ a.h = b.h ∧ a.x + a.w < b.x) ∨ a.y + a.h ≤ b.y
theorem flatB_fol : ∀ {B : List Bd}, CanB B → (flatB B).Pairwise fol
  | [], _ => .nil
  | b :: B, h => by
    show (b.rects ++ flatB B).Pairwise fol
    rw [List.pairwise_append]
    refine ⟨?_, flatB_fol h.tail, fun r hr q hq => ?_⟩
    · unfold Bd.rects
      rw [List.pairwise_map]
      exact h.head.s.apart.imp fun {p q} hpq => .inl ⟨rfl, rfl, by simp only; omega⟩
    · unfold Bd.rects at hr
      obtain ⟨p, hp, rfl⟩ := List.mem_map.1 hr
      obtain ⟨c, hc, p', _, rfl⟩ := mem_flatB.1 hq
      exact .inr (h.below c hc)
theorem ofF_fol (l : List RC) : (ofF l).Pairwise fol := flatB_fol (bandsF_spec l).1
theorem fol_y {l : List RC} (hc : ∀ r ∈ l, r.cnt) (h : l.Pairwise fol) : l.Pairwise fun a b => a.y ≤ b.y := by
  refine h.imp_of_mem fun {a b} ha hb hf => ?_
  have := (hc a ha).2.2.1
  rcases hf with hf | hf <;> omega
theorem ofF_y (l : List RC) : (ofF l).Pairwise fun a b => a.y ≤ b.y := fol_y (ofF_cnt l) (ofF_fol l)
end Go.Proofs.Ytdknjjgmmmmfjaa

/- region's small closures. No condition. -/
namespace Go.Proofs.Ytdknjjgmmmmfjaa
open Go Go.VM
attribute [local irreducible] PurV Pur Step RL W D ACalls Then InBlock Fini
set_option linter.unusedVariables false
set_option linter.unusedSimpArgs false
set_option maxRecDepth 100000 in
theorem meet1_c (p q : Bool) (h : Heap) : ACalls Try.prog 72 [.val (.bool p), .val (.bool q)] h (fun r h' => r = .val (.bool (p && q)) ∧ h' = h) := by
  refine ACalls.intro Try.func72 rfl Try.ntmps72 Try.results72 (Nat.le_of_ble_eq_true rfl) ?_
  cases p <;> cases q <;> ((repeat' (first | (refine iS ?_; refine iMu ?_; refine S.mapU ?_) | refine svz ⟨fun b hq => ?_⟩ | refine sv1 ?_ | refine svs ⟨?_⟩ | refine svu ⟨fun u => ?_⟩ | (refine svg (fun hg => ?_) (fun hg => ?_) <;> try (exfalso; first | omega | contradiction)) | (refine svc (fun hc => ?_) (fun hc => ?_) <;> try (exfalso; first | omega | contradiction)) | refine sv2 ?_ | refine svh (fun hb => ?_) (fun hb => ?_) | refine svb (fun b => ?_) | refine sva ?_ | refine sv3 ?_)); exact fin_r (h' := h) ⟨rfl, rfl⟩)
set_option maxRecDepth 100000 in
theorem minus1_c (p q : Bool) (h : Heap) : ACalls Try.prog 70 [.val (.bool p), .val (.bool q)] h (fun r h' => r = .val (.bool (p && !q)) ∧ h' = h) := by
  refine ACalls.intro Try.func70 rfl Try.ntmps70 Try.results70 (Nat.le_of_ble_eq_true rfl) ?_
  cases p <;> cases q <;> ((repeat' (first | (refine iS ?_; refine iMu ?_; refine S.mapU ?_) | refine svz ⟨fun b hq => ?_⟩ | refine sv1 ?_ | refine svs ⟨?_⟩ | refine svu ⟨fun u => ?_⟩ | (refine svg (fun hg => ?_) (fun hg => ?_) <;> try (exfalso; first | omega | contradiction)) | (refine svc (fun hc => ?_) (fun hc => ?_) <;> try (exfalso; first | omega | contradiction)) | refine sv2 ?_ | refine svh (fun hb => ?_) (fun hb => ?_) | refine svb (fun b => ?_) | refine sva ?_ | refine sv3 ?_)); exact fin_r (h' := h) ⟨rfl, rfl⟩)
set_option maxRecDepth 100000 in
theorem tellY_c (r : RC) (h : Heap) : ACalls Try.prog 87 [r.enc] h (fun v h' => v = .tup [.val (.int .i64 r.y), .val (.int .i64 r.h)] ∧ h' = h) := by
  refine ACalls.intro Try.func87 rfl Try.ntmps87 Try.results87 (Nat.le_of_ble_eq_true rfl) ?_
  (repeat' (first | (refine iS ?_; refine iMu ?_; refine S.mapU ?_) | refine svz ⟨fun b hq => ?_⟩ | refine sv1 ?_ | refine svs ⟨?_⟩ | refine svu ⟨fun u => ?_⟩ | (refine svg (fun hg => ?_) (fun hg => ?_) <;> try (exfalso; first | omega | contradiction)) | (refine svc (fun hc => ?_) (fun hc => ?_) <;> try (exfalso; first | omega | contradiction)) | refine sv2 ?_ | refine svh (fun hb => ?_) (fun hb => ?_) | refine svb (fun b => ?_) | refine sva ?_ | refine sv3 ?_))
  exact fin_r (h' := h) ⟨rfl, rfl⟩
set_option maxRecDepth 100000 in
theorem tellX_c (r : RC) (h : Heap) : ACalls Try.prog 89 [r.enc] h (fun v h' => v = .tup [.val (.int .i64 r.x), .val (.int .i64 r.w)] ∧ h' = h) := by
  refine ACalls.intro Try.func89 rfl Try.ntmps89 Try.results89 (Nat.le_of_ble_eq_true rfl) ?_
  (repeat' (first | (refine iS ?_; refine iMu ?_; refine S.mapU ?_) | refine svz ⟨fun b hq => ?_⟩ | refine sv1 ?_ | refine svs ⟨?_⟩ | refine svu ⟨fun u => ?_⟩ | (refine svg (fun hg => ?_) (fun hg => ?_) <;> try (exfalso; first | omega | contradiction)) | (refine svc (fun hc => ?_) (fun hc => ?_) <;> try (exfalso; first | omega | contradiction)) | refine sv2 ?_ | refine svh (fun hb => ?_) (fun hb => ?_) | refine svb (fun b => ?_) | refine sva ?_ | refine sv3 ?_))
  exact fin_r (h' := h) ⟨rfl, rfl⟩
end Go.Proofs.Ytdknjjgmmmmfjaa
