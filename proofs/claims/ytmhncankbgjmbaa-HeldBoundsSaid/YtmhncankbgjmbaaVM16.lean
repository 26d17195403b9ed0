/- Regions that draw their order: what only looks, and calls that leave all as it was, are taken in one order for all. No condition. -/
import Derived.Test.YtmhncankbgjmbaaVM15
namespace Go.VM
open Go
set_option linter.unusedVariables false
set_option linter.unusedSimpArgs false
def slotOf : Operand → Option Nat
  | .tmp t => some t
  | _ => none
def inL : List Nat → Nat → Bool
  | [], _ => false
  | y :: r, x => bif Nat.beq y x then true else inL r x
theorem inL_iff : ∀ {l : List Nat} {x : Nat}, inL l x = true ↔ x ∈ l
  | [], x => by simp [inL]
  | y :: r, x => by
    simp only [inL]
    by_cases h : y = x
    · subst h; simp
    · have : Nat.beq y x = false := by
        cases hb : Nat.beq y x
        · rfl
        · exact absurd (Nat.eq_of_beq_eq_true hb) h
      rw [this, cond_false, inL_iff]
      simp [Ne.symm h]
def dstAt (ops : Array Oper) (j : Nat) : Option Nat := (ops[j]?).bind (·.dst)
def readsOf (ops : Array Oper) (o : Oper) : List Nat :=
  (o.op.operands.toList.filterMap slotOf) ++ (match o.guard with | none => [] | some (j, _) => match dstAt ops j with | some d => [d] | none => [])
def readsAt (ops : Array Oper) (j : Nat) : List Nat := match ops[j]? with | some o => readsOf ops o | none => []
def restr (rs : List Nat) : List (Nat × AV) → List (Nat × AV)
  | [] => []
  | p :: r => bif inL rs p.1 then p :: restr rs r else restr rs r
theorem get_restr (rs : List Nat) (x : Nat) : ∀ t, get (restr rs t) x = if x ∈ rs then get t x else none
  | [] => by simp [restr, get]
  | (y, v) :: r => by
    simp only [restr]
    have ih := get_restr rs x r
    cases hy : inL rs y
    · rw [cond_false, ih, get_eq]
      have : y ∉ rs := fun h => by rw [inL_iff.2 h] at hy; cases hy
      by_cases hx : x ∈ rs
      · rw [if_pos hx, if_pos hx, if_neg (fun e : y = x => this (by rw [e]; exact hx))]
      · rw [if_neg hx, if_neg hx]
    · rw [cond_true, get_eq, get_eq, ih]
      have := inL_iff.1 hy
      by_cases hx : y = x
      · subst hx; simp [this]
      · simp [hx]
theorem get_restr_some {rs : List Nat} {x : Nat} {t : List (Nat × AV)} {v : AV} (h : get (restr rs t) x = some v) : x ∈ rs ∧ get t x = some v := by
  rw [get_restr] at h
  by_cases hx : x ∈ rs
  · rw [if_pos hx] at h; exact ⟨hx, h⟩
  · rw [if_neg hx] at h; cases h
/-! Who waits for whom -/
def maskOf (acc : List Nat) (es : List Edge) : Nat := es.foldl (fun s e => if Region.binds .any e then s ||| 2 ^ e.on ||| acc.getD e.on 0 else s) 0
def masks : List Oper → List Nat → List Nat
  | [], acc => acc
  | o :: os, acc => masks os (acc ++ [maskOf acc o.after.toList])
theorem mask_bit {acc : List Nat} {i : Nat} : ∀ (es : List Edge) (s : Nat), (es.foldl (fun s e => if Region.binds .any e then s ||| 2 ^ e.on ||| acc.getD e.on 0 else s) s).testBit i = true →
    s.testBit i = true ∨ ∃ e ∈ es, Region.binds .any e = true ∧ (e.on = i ∨ (acc.getD e.on 0).testBit i = true)
  | [], s, h => .inl h
  | e :: es, s, h => by
    rw [List.foldl_cons] at h
    rcases mask_bit es _ h with h | ⟨e', h1, h2⟩
    · by_cases hb : Region.binds .any e = true
      · rw [if_pos hb, Nat.testBit_or, Nat.testBit_or] at h
        simp only [Bool.or_eq_true] at h
        rcases h with (h | h) | h
        · exact .inl h
        · refine .inr ⟨e, List.mem_cons_self .., hb, .inl ?_⟩
          rw [Nat.testBit_two_pow] at h
          simpa using h
        · exact .inr ⟨e, List.mem_cons_self .., hb, .inr h⟩
      · rw [if_neg hb] at h; exact .inl h
    · exact .inr ⟨e', List.mem_cons_of_mem _ h1, h2⟩
theorem masks_good {L : Nat → Prop} {all : List Oper} (hd : ∀ j o, all[j]? = some o → L j → ∀ e ∈ o.after.toList, Region.binds .any e = true → L e.on) :
    ∀ (os : List Oper) (acc : List Nat), all.drop acc.length = os → (∀ j, L j → ∀ i, (acc.getD j 0).testBit i = true → L i) → ∀ j, L j → ∀ i, ((masks os acc).getD j 0).testBit i = true → L i
  | [], acc, _, hg, j, hj, i, h => hg j hj i h
  | o :: os, acc, hdr, hg, j, hj, i, h => by
    simp only [masks] at h
    obtain ⟨h1, h2⟩ := drop_cons hdr
    refine masks_good hd os _ (by simpa using h2) ?_ j hj i h
    intro j hj i h
    by_cases hl : j < acc.length
    · rw [List.getD_eq_getElem?_getD, List.getElem?_append_left hl, ← List.getD_eq_getElem?_getD] at h
      exact hg j hj i h
    · by_cases he : j = acc.length
      · subst he
        rw [List.getD_eq_getElem?_getD, List.getElem?_append_right (Nat.le_refl _)] at h
        simp only [Nat.sub_self, List.getElem?_cons_zero, Option.getD_some] at h
        unfold maskOf at h
        rcases mask_bit _ _ h with h | ⟨e, he, hb, h | h⟩
        · simp at h
        · subst h; exact hd _ o h1 hj e he hb
        · exact hg _ (hd _ o h1 hj e he hb) i h
      · rw [List.getD_eq_getElem?_getD, List.getElem?_eq_none (by simp; omega)] at h
        simp at h
def okR (ops : Array Oper) : Bool :=
  let ms := masks ops.toList []
  (List.range ops.size).all fun j => match ops[j]? with
    | none => true
    | some oj => (oj.after.all fun e => !Region.binds .any e || Nat.blt e.on j) &&
      (List.range ops.size).all fun i => Nat.beq i j || match dstAt ops i with
        | none => true
        | some x => (match oj.dst with | none => true | some y => !Nat.beq x y) && (!inL (readsOf ops oj) x || (ms.getD j 0).testBit i || (ms.getD i 0).testBit j)
def anc (ops : Array Oper) (j i : Nat) : Prop := ((masks ops.toList []).getD j 0).testBit i = true
def Down (ops : Array Oper) (L : Nat → Prop) : Prop := ∀ j o, ops[j]? = some o → L j → ∀ e ∈ o.after, Region.binds .any e = true → L e.on
section
variable {ops : Array Oper}
theorem Down.anc {L : Nat → Prop} (h : Down ops L) {j i : Nat} (hj : L j) (ha : anc ops j i) : L i :=
  masks_good (L := L) (all := ops.toList) (fun j o ho hj e he hb => h j o (by simpa using ho) hj e (by simpa using he) hb) ops.toList [] rfl (by simp) j hj i ha
theorem okR_spec (h : okR ops = true) {j : Nat} {oj : Oper} (hj : ops[j]? = some oj) : (∀ e ∈ oj.after, Region.binds .any e = true → e.on < j) ∧
    ∀ i x, i ≠ j → dstAt ops i = some x → oj.dst ≠ some x ∧ (x ∈ readsOf ops oj → anc ops j i ∨ anc ops i j) := by
  have hlt := (Array.getElem?_eq_some_iff.1 hj).1
  unfold okR at h
  have h1 := List.all_eq_true.1 h j (List.mem_range.2 hlt)
  simp only [hj, Bool.and_eq_true] at h1
  refine ⟨fun e he hb => ?_, fun i x hi hx => ?_⟩
  · have := Array.all_eq_true_iff_forall_mem.1 h1.1 e he
    simp only [hb, Bool.not_true, Bool.false_or] at this
    exact Nat.le_of_ble_eq_true this
  · have hil : i < ops.size := by
      rcases Nat.lt_or_ge i ops.size with q | q
      · exact q
      · unfold dstAt at hx; rw [Array.getElem?_eq_none q] at hx; cases hx
    have h2 := List.all_eq_true.1 h1.2 i (List.mem_range.2 hil)
    have hne : Nat.beq i j = false := by
      cases hb : Nat.beq i j
      · rfl
      · exact absurd (Nat.eq_of_beq_eq_true hb) hi
    simp only [hne, Bool.false_or, hx, Bool.and_eq_true, Bool.or_eq_true] at h2
    refine ⟨fun e => ?_, fun hr => ?_⟩
    · rw [e] at h2
      have := h2.1
      simp at this
    · rcases h2.2 with (h2 | h2) | h2
      · rw [inL_iff.2 hr] at h2; cases h2
      · exact .inl h2
      · exact .inr h2
end
def left (n : Nat) (act : Array Bool) : Nat := (List.range n).countP fun i => !act.getD i true
theorem countP_lt {p q : Nat → Bool} : ∀ {l : List Nat}, (∀ x ∈ l, p x = true → q x = true) → (∃ x ∈ l, q x = true ∧ p x = false) → l.countP p < l.countP q
  | [], _, ⟨x, hx, _⟩ => by cases hx
  | y :: l, h, ⟨x, hx, h1, h2⟩ => by
    have hle : l.countP p ≤ l.countP q := List.countP_mono_left fun x hx => h x (List.mem_cons_of_mem _ hx)
    rcases List.mem_cons.1 hx with rfl | hx
    · rw [List.countP_cons, List.countP_cons, h1, h2]; simp; omega
    · have := countP_lt (fun x hx => h x (List.mem_cons_of_mem _ hx)) ⟨x, hx, h1, h2⟩
      rw [List.countP_cons, List.countP_cons]
      by_cases hp : p y = true
      · rw [hp, h y (List.mem_cons_self ..) hp]; simp; omega
      · simp only [hp]; simp; omega
theorem left_lt {n i : Nat} {act : Array Bool} (hs : act.size = n) (hi : act.getD i true = false) : left n (act.setIfInBounds i true) < left n act := by
  have hil : i < act.size := by
    rcases Nat.lt_or_ge i act.size with q | q
    · exact q
    · rw [Array.getD_eq_getD_getElem?, Array.getElem?_eq_none q] at hi; cases hi
  refine countP_lt (fun x _ hx => ?_) ⟨i, List.mem_range.2 (hs ▸ hil), by simp [hi], ?_⟩
  · by_cases h : i = x
    · subst h; rw [hi]; rfl
    · rwa [getD_set_ne true h] at hx
  · simp [hil]
theorem min_of : ∀ (l : List Nat), l ≠ [] → ∃ x ∈ l, ∀ y ∈ l, x ≤ y
  | [], h => absurd rfl h
  | [x], _ => ⟨x, by simp, by simp⟩
  | x :: y :: r, _ => by
    obtain ⟨z, h1, h2⟩ := min_of (y :: r) (by simp)
    rcases Nat.lt_or_ge x z with h | h
    · exact ⟨x, by simp, fun u hu => by rcases List.mem_cons.1 hu with rfl | hu; exact Nat.le_refl _; have := h2 u hu; omega⟩
    · exact ⟨z, List.mem_cons_of_mem _ h1, fun u hu => by rcases List.mem_cons.1 hu with rfl | hu; exact h; exact h2 u hu⟩
/-! What an operation does -/
theorem wp_act {P : Program} {o : Oper} {a : Act} {w : World} {K : Act → World → Prop} {Q : Exit → Act → World → Prop} (h : o.wp P a w K Q) : o.wp P a w (fun a' w' => (∃ u, a'.tmps = (a.put o.dst u).tmps) ∧ K a' w') Q := by
  unfold Oper.wp at *
  generalize (execOp a.eval o).run P w = r at *
  cases r with
  | ok n w' =>
    cases n <;> simp only [Oper.upon] at h ⊢
    case value v => exact ⟨⟨v, rfl⟩, h⟩
    case skip => exact ⟨⟨_, rfl⟩, h⟩
    case defer d => exact ⟨⟨undef, by cases o.dst <;> rfl⟩, h⟩
    case enter f args =>
      refine Calls.mono h fun e w'' he => ?_
      cases e with
      | returned u => exact ⟨⟨u, rfl⟩, he⟩
      | panicked c => exact he
      | outgrown => exact he
    case row row args => exact Rows.mono h fun u w'' he => ⟨⟨u, rfl⟩, he⟩
  | halt x w' => cases x <;> simp only [Oper.upon] at h ⊢ <;> exact h
/-- The state behind an operation, of its slot v, and of the heap h'. -/
def Out (n : Nat) (m0 : GF) (w0 : World) (m : Ghost) (a : Act) (dst : Option Nat) (h' : Heap) (v : AV) (a' : Act) (w' : World) : Prop :=
  ∃ m' u, Gle m m' ∧ a'.tmps = (a.put dst u).tmps ∧ Rel m' v u ∧ SimG m0 w0 m' ⟨n, [], h'⟩ a' w'
theorem SimG.bare {m0 : GF} {w0 : World} {m : Ghost} {n : Nat} {t : List (Nat × AV)} {h : Heap} {a : Act} {w : World} (k : SimG m0 w0 m ⟨n, t, h⟩ a w) : SimG m0 w0 m ⟨n, [], h⟩ a w :=
  { k with tmps := fun i v e => by simp [get] at e }
theorem SimG.with {m0 : GF} {w0 : World} {m : Ghost} {n : Nat} {t t' : List (Nat × AV)} {h : Heap} {a : Act} {w : World} (k : SimG m0 w0 m ⟨n, t, h⟩ a w) (q : TRel m t' a.tmps) : SimG m0 w0 m ⟨n, t', h⟩ a w :=
  { k with tmps := q }
theorem SimG.permh {m0 : GF} {w0 : World} {m : Ghost} {n : Nat} {t : List (Nat × AV)} {h h' : Heap} {a : Act} {w : World} (k : SimG m0 w0 m ⟨n, t, h⟩ a w) (q : h'.Perm h) : SimG m0 w0 m ⟨n, t, h'⟩ a w :=
  { k with heap := k.heap.perm q, own := fun x hx => k.own x (q.subset hx) }
/-- A step beside what it does not touch. -/
theorem step_frame {P : Program} {o : Oper} {n : Nat} {tr : List (Nat × AV)} {h : Heap} {K : St → Prop} (hst : Step P o ⟨n, tr, h⟩ K) {m0 : GF} {w0 : World} {m : Ghost} {a : Act} {w : World} {hro : Heap}
    (hs : SimG m0 w0 m ⟨n, tr, hro ++ h⟩ a w) (Q : Exit → Act → World → Prop) :
    o.wp P a w (fun a' w' => ∃ s' m' u, K s' ∧ Gle m m' ∧ a'.tmps = (a.put o.dst u).tmps ∧ TRel m' s'.t a'.tmps ∧ SimG m0 w0 m' ⟨n, [], hro ++ s'.h⟩ a' w') Q := by
  have hnd := hs.heap.1
  have hro_in : ∀ x ∈ hro, x ∈ hro ++ h := fun x hx => List.mem_append_left _ hx
  have hsh_in : ∀ x ∈ h, x ∈ hro ++ h := fun x hx => List.mem_append_right _ hx
  have hdisj : ∀ x ∈ hro, ∀ b, x.blk = some b → ¬ ∃ y ∈ h, y.blk = some b := by
    intro x hx b hb hy
    rw [List.filterMap_append, List.nodup_append] at hnd
    obtain ⟨y, hy, hyb⟩ := hy
    exact hnd.2.2 b (mem_blks.2 ⟨x, hx, hb⟩) b (mem_blks.2 ⟨y, hy, hyb⟩) rfl
  have hs1 : SimG (m, fun b => ∃ y ∈ h, y.blk = some b) w m ⟨n, tr, h⟩ a w :=
    ⟨Gle.refl m, fun b o e => .inl e, fun _ _ _ => rfl, fun x hx b hb => .inl ⟨x, hx, hb⟩, hs.holds, Same.refl w, hs.defers, hs.size, hs.tmps, hs.heap.sub (List.sublist_append_right _ _)⟩
  refine Oper.wp_mono ?_ (wp_act (hst _ w a w ⟨m, hs1⟩ Q))
  rintro a' w' ⟨⟨u, hu⟩, s', hk, m', hs'⟩
  have hszw := hs'.same.size
  have hblk : ∀ x ∈ hro, ∀ b, x.blk = some b → b < w.heap.size := fun x hx b hb => (hs.heap.2 x (hro_in x hx)).2.lt hb
  have hfix : ∀ x ∈ hro, ∀ b, x.blk = some b → w'.heap[b]? = w.heap[b]? := fun x hx b hb => hs'.frame b (hblk x hx b hb) (hdisj x hx b hb)
  have hro' : ∀ x ∈ hro, (∀ b, x.blk = some b → m' b = none) ∧ OERel m' w' x := by
    intro x hx
    refine ⟨fun b hb => ?_, ((hs.heap.2 x (hro_in x hx)).2.mono hs'.le).local (hfix x hx)⟩
    cases hmb : m' b with
    | none => rfl
    | some o =>
      rcases hs'.grow b o hmb with h | h | h
      · have h : m b = some o := h
        rw [(hs.heap.2 x (hro_in x hx)).1 b hb] at h; cases h
      · exact absurd h (hdisj x hx b hb)
      · have := hblk x hx b hb; omega
  have hheap : HRel m' (hro ++ s'.h) w' := by
    refine ⟨?_, fun x hx => ?_⟩
    · rw [List.filterMap_append, List.nodup_append]
      rw [List.filterMap_append, List.nodup_append] at hnd
      refine ⟨hnd.1, hs'.heap.1, fun b hb c hc e => ?_⟩
      subst e
      obtain ⟨x, hx, hxb⟩ := mem_blks.1 hb
      obtain ⟨y, hy, hyb⟩ := mem_blks.1 hc
      rcases hs'.own y hy b hyb with h | h
      · exact hdisj x hx b hxb h
      · have := hblk x hx b hxb; omega
    · rw [List.mem_append] at hx
      rcases hx with hx | hx
      · exact hro' x hx
      · exact hs'.heap.2 x hx
  have hF : ∀ b, (∃ y ∈ h, y.blk = some b) → m0.2 b ∨ w0.heap.size ≤ b := fun b ⟨y, hy, hb⟩ => hs.own y (hsh_in y hy) b hb
  have hsz := hs.same.size
  have hsn : s'.n = n := by
    have h1 := hs'.size
    have h2 := hs.size
    rw [hu] at h1
    cases hd : o.dst <;> rw [hd] at h1 <;> simp [Act.put] at h1 <;> simp at h2 <;> omega
  refine ⟨s', m', u, hk, hs'.le, hu, hs'.tmps, ?_⟩
  exact
    { le := hs.le.trans hs'.le
      grow := fun b o e => by
        rcases hs'.grow b o e with h | h | h
        · exact hs.grow b o h
        · rcases hF b h with h | h <;> simp [h]
        · right; right; omega
      frame := fun b q1 q2 => (hs'.frame b (by omega) (fun hy => by rcases hF b hy with h | h; exact q2 h; omega)).trans (hs.frame b q1 q2)
      own := fun y hy b hb => by
        simp only [List.mem_append] at hy
        rcases hy with hy | hy
        · exact hs.own y (hro_in y hy) b hb
        · rcases hs'.own y hy b hb with h | h
          · exact hF b h
          · right; omega
      holds := hs'.holds
      same := hs.same.trans hs'.same
      defers := hs'.defers
      size := by simpa [hsn] using hs'.size
      tmps := fun i v e => by simp [get] at e
      heap := hheap }
/-! ### The predicate -/
section
variable {P : Program} {ops : Array Oper} {n : Nat}
/-- Operation i, beside hro, with h: whatever it gives, and the heap behind it. -/
def EOp (P : Program) (ops : Array Oper) (n i : Nat) (tr : List (Nat × AV)) (hro h : Heap) (R : AV → Heap → Prop) : Prop :=
  (∀ d, dstAt ops i = some d → d < n) ∧ ∀ m0 w0 m a w, SimG m0 w0 m ⟨n, tr, hro ++ h⟩ a w → ∀ Q, wpOp P ops Q i (fun a' w' => ∃ v h', R v h' ∧ Out n m0 w0 m a (dstAt ops i) (hro ++ h') v a' w') a w
abbrev Pend := Nat × List (Nat × AV) × AV
def PendOk (P : Program) (ops : Array Oper) (n : Nat) (hro : Heap) (m : Ghost) (p : Pend) : Prop :=
  (∀ d, dstAt ops p.1 = some d → d < n) ∧ ∀ m0 w0 m' a w h, Gle m m' → SimG m0 w0 m' ⟨n, p.2.1, hro ++ h⟩ a w → ∀ Q, wpOp P ops Q p.1 (fun a' w' => Out n m0 w0 m' a (dstAt ops p.1) (hro ++ h) p.2.2 a' w') a w
structure Cfg (P : Program) (ops : Array Oper) (n : Nat) (hro : Heap) (m0 : GF) (w0 : World) (todo : List Nat) (t : List (Nat × AV)) (h : Heap) (m : Ghost) (a : Act) (w : World) (act : Array Bool) (pend : List Pend) : Prop where
  base : SimG m0 w0 m ⟨n, [], hro ++ h⟩ a w
  sz : act.size = ops.size
  part : ∀ i, i < ops.size → (i ∈ todo ↔ act.getD i true = false ∧ ∀ p ∈ pend, p.1 ≠ i)
  tod : ∀ i ∈ todo, i < ops.size
  un : ∀ p ∈ pend, act.getD p.1 true = false
  nd : (pend.map (·.1)).Nodup
  downV : Down ops (fun i => i < ops.size ∧ i ∉ todo)
  downA : Down ops (fun i => act.getD i false = true)
  ev : ∀ p ∈ pend, PendOk P ops n hro m p
  i2 : ∀ x v, get t x = some v → (∀ p ∈ pend, dstAt ops p.1 ≠ some x) → ∃ u, a.tmps[x]? = some u ∧ Rel m v u
  i3 : ∀ p ∈ pend, ∀ x v, get p.2.1 x = some v → (∀ q ∈ pend, q.1 ≠ p.1 → anc ops p.1 q.1 → dstAt ops q.1 ≠ some x) → ∃ u, a.tmps[x]? = some u ∧ Rel m v u
  i3r : ∀ p ∈ pend, ∀ x v, get p.2.1 x = some v → x ∈ readsAt ops p.1
  i4 : ∀ p ∈ pend, ∀ x, dstAt ops p.1 = some x → get t x = some p.2.2
  i5 : ∀ p ∈ pend, ∀ q ∈ pend, q.1 ≠ p.1 → anc ops p.1 q.1 → ∀ x, dstAt ops q.1 = some x → ∀ v, get p.2.1 x = some v → v = q.2.2
def DR (P : Program) (ops : Array Oper) (K : St → Prop) (n : Nat) (hro : Heap) (todo : List Nat) (t : List (Nat × AV)) (h : Heap) : Prop :=
  ∀ m0 w0 m a w act pend fuel, Cfg P ops n hro m0 w0 todo t h m a w act pend → left ops.size act ≤ fuel →
    wpAny P .any ops (fun e a' w' => e = .normal ∧ ∃ s', K s' ∧ Sim m0 w0 s' a' w') fuel act a w
theorem act_lt {act : Array Bool} {i : Nat} (h : act.getD i true = false) : i < act.size := by
  rcases Nat.lt_or_ge i act.size with q | q
  · exact q
  · rw [Array.getD_eq_getD_getElem?, Array.getElem?_eq_none q] at h; cases h
theorem act_tf {act : Array Bool} {i : Nat} (hi : i < act.size) : act.getD i true = false ↔ act.getD i false ≠ true := by
  simp [Array.getD_eq_getD_getElem?, hi]
theorem set_false {act : Array Bool} {i j : Nat} (h : i < act.size) : (act.setIfInBounds i true).getD j true = false ↔ act.getD j true = false ∧ i ≠ j := by
  by_cases hij : i = j
  · subst hij; simp [h]
  · rw [getD_set_ne true hij]; simp [hij]
theorem set_true {act : Array Bool} {i j : Nat} (h : i < act.size) : (act.setIfInBounds i true).getD j false = true ↔ act.getD j false = true ∨ i = j := by
  by_cases hij : i = j
  · subst hij; simp [h]
  · rw [getD_set_ne false hij]; simp [hij]
section
variable {hro : Heap} {m0 : GF} {w0 : World} {todo : List Nat} {t : List (Nat × AV)} {h : Heap} {m : Ghost} {a : Act} {w : World} {act : Array Bool} {pend : List Pend} {K : St → Prop}
theorem Cfg.down_add (c : Cfg P ops n hro m0 w0 todo t h m a w act pend) {i : Nat} (hi : i ∈ Region.ready .any ops act) : Down ops (fun j => (act.setIfInBounds i true).getD j false = true) := by
  obtain ⟨h0, o, ho, hall⟩ := mem_ready.1 hi
  have hlt := act_lt h0
  intro j oj hj hl e he hb
  rcases (set_true hlt).1 hl with hl | rfl
  · exact (set_true hlt).2 (.inl (c.downA j oj hj hl e he hb))
  · rw [ho] at hj; injection hj with hj; subst hj
    exact (set_true hlt).2 (.inl (hall e he hb))
theorem Cfg.anc_act (c : Cfg P ops n hro m0 w0 todo t h m a w act pend) {i j : Nat} (hi : i ∈ Region.ready .any ops act) (ha : anc ops i j) (hne : j ≠ i) : act.getD j false = true := by
  have hlt := act_lt (mem_ready.1 hi).1
  have h1 := (c.down_add hi).anc (j := i) (i := j) ((set_true hlt).2 (.inr rfl)) ha
  exact ((set_true hlt).1 h1).resolve_right (Ne.symm hne)
theorem Cfg.not_act (c : Cfg P ops n hro m0 w0 todo t h m a w act pend) {p : Pend} (hp : p ∈ pend) : ¬ act.getD p.1 false = true := (act_tf (act_lt (c.un p hp))).1 (c.un p hp)
theorem Cfg.listed (c : Cfg P ops n hro m0 w0 todo t h m a w act pend) {p : Pend} (hp : p ∈ pend) : p.1 < ops.size ∧ p.1 ∉ todo := by
  have hlt := act_lt (c.un p hp)
  rw [c.sz] at hlt
  exact ⟨hlt, fun ht => ((c.part _ hlt).1 ht).2 p hp rfl⟩
theorem Cfg.tmp_put (c : Cfg P ops n hro m0 w0 todo t h m a w act pend) {d : Nat} (hd : d < n) {u : Value} : ((a.put (some d) u).tmps)[d]? = some u := by
  have := c.base.size
  simp only [Act.put]
  rw [Array.getElem?_setIfInBounds_self_of_lt]
  simp at this; omega
theorem tmp_other {d : Option Nat} {x : Nat} {u : Value} (hx : d ≠ some x) : ((a.put d u).tmps)[x]? = a.tmps[x]? := by
  cases d with
  | none => rfl
  | some d => simp only [Act.put]; rw [Array.getElem?_setIfInBounds_ne (fun e => hx (by rw [e]))]
/-- One that was put off is carried out. -/
theorem Cfg.perform (hok : okR ops = true) (c : Cfg P ops n hro m0 w0 todo t h m a w act pend) {p : Pend} {l r : List Pend} (hp : pend = l ++ p :: r) (hr : p.1 ∈ Region.ready .any ops act) (Q : Exit → Act → World → Prop) :
    wpOp P ops Q p.1 (fun a' w' => ∃ m', Cfg P ops n hro m0 w0 todo t h m' a' w' (act.setIfInBounds p.1 true) (l ++ r)) a w := by
  have hmem : p ∈ pend := by rw [hp]; simp
  have hsub : ∀ q ∈ l ++ r, q ∈ pend := fun q hq => by rw [hp]; simp at hq ⊢; rcases hq with hq | hq <;> simp [hq]
  have hnd := c.nd
  rw [hp, List.map_append, List.map_cons] at hnd
  have hne : ∀ q ∈ l ++ r, q.1 ≠ p.1 := by
    intro q hq e
    have hn2 := List.nodup_append.1 hnd
    rcases List.mem_append.1 hq with hq | hq
    · exact hn2.2.2 _ (List.mem_map_of_mem hq) _ (List.mem_cons_self ..) e
    · exact (List.nodup_cons.1 hn2.2.1).1 (e ▸ List.mem_map_of_mem hq)
  have hcase : ∀ q ∈ pend, q = p ∨ q ∈ l ++ r := fun q hq => by rw [hp] at hq; simp at hq ⊢; rcases hq with hq | hq | hq <;> simp [hq]
  have hlt := act_lt (c.un p hmem)
  obtain ⟨h0, oi, hoi, hall⟩ := mem_ready.1 hr
  obtain ⟨hpd, hpe⟩ := c.ev p hmem
  have htr : TRel m p.2.1 a.tmps := fun x v hv => c.i3 p hmem x v hv fun q hq hqp hqa => by
    exact absurd (c.anc_act hr hqa hqp) (c.not_act hq)
  refine wpOp_mono ?_ (hpe m0 w0 m a w h (Gle.refl m) (c.base.with htr) Q)
  rintro a' w' ⟨m', u, g1, g2, g3, g4⟩
  refine ⟨m', ?_⟩
  have key : ∀ x v, ∀ q : Prop, (dstAt ops p.1 = some x → v = p.2.2) → (dstAt ops p.1 ≠ some x → ∃ u, a.tmps[x]? = some u ∧ Rel m v u) → ∃ u, a'.tmps[x]? = some u ∧ Rel m' v u := by
    intro x v _ k1 k2
    rw [g2]
    by_cases hx : dstAt ops p.1 = some x
    · rw [k1 hx, hx]
      exact ⟨u, c.tmp_put (hpd x hx), g3⟩
    · obtain ⟨u', q1, q2⟩ := k2 hx
      exact ⟨u', by rw [tmp_other hx]; exact q1, q2.mono g1⟩
  exact
    { base := g4
      sz := by rw [Array.size_setIfInBounds]; exact c.sz
      part := fun i hi => by
        rw [c.part i hi, set_false hlt]
        constructor
        · rintro ⟨q1, q2⟩; exact ⟨⟨q1, q2 p hmem⟩, fun q hq => q2 q (hsub q hq)⟩
        · rintro ⟨⟨q1, q2⟩, q3⟩; exact ⟨q1, fun q hq => by rcases hcase q hq with rfl | hq; exact q2; exact q3 q hq⟩
      tod := c.tod
      un := fun q hq => (set_false hlt).2 ⟨c.un q (hsub q hq), Ne.symm (hne q hq)⟩
      nd := by
        rw [List.map_append]
        exact List.Nodup.sublist ((List.Sublist.refl _).append (List.sublist_cons_self _ _)) hnd
      downV := c.downV
      downA := c.down_add hr
      ev := fun q hq => ⟨(c.ev q (hsub q hq)).1, fun m0 w0 m2 a w h g => (c.ev q (hsub q hq)).2 m0 w0 m2 a w h (g1.trans g)⟩
      i2 := fun x v hv hq => key x v True (fun hx => by have := c.i4 p hmem x hx; rw [hv] at this; injection this)
        (fun hx => c.i2 x v hv fun q hq' => by rcases hcase q hq' with rfl | hq'; exact hx; exact hq q hq')
      i3 := fun q hq x v hv hw => key x v True
        (fun hx => by
          have hrd := c.i3r q (hsub q hq) x v hv
          unfold readsAt at hrd
          cases ho : ops[q.1]? with
          | none => rw [ho] at hrd; cases hrd
          | some oq =>
            rw [ho] at hrd
            rcases ((okR_spec hok ho).2 p.1 x (Ne.symm (hne q hq)) hx).2 hrd with ha | ha
            · exact c.i5 q (hsub q hq) p hmem (Ne.symm (hne q hq)) ha x hx v hv
            · exact absurd (c.anc_act hr ha (hne q hq)) (c.not_act (hsub q hq)))
        (fun hx => c.i3 q (hsub q hq) x v hv fun q' hq' k1 k2 => by rcases hcase q' hq' with rfl | hq'; exact hx; exact hw q' hq' k1 k2)
      i3r := fun q hq => c.i3r q (hsub q hq)
      i4 := fun q hq => c.i4 q (hsub q hq)
      i5 := fun q hq q' hq' => c.i5 q (hsub q hq) q' (hsub q' hq') }
/-- Some one of those put off may come up. -/
theorem Cfg.some_ready (hok : okR ops = true) (c : Cfg P ops n hro m0 w0 todo t h m a w act pend) (hne : pend ≠ []) : ∃ p ∈ pend, p.1 ∈ Region.ready .any ops act := by
  obtain ⟨x, hx, hmin⟩ := min_of (pend.map (·.1)) (by simpa using hne)
  obtain ⟨p, hp, rfl⟩ := List.mem_map.1 hx
  refine ⟨p, hp, mem_ready.2 ⟨c.un p hp, ?_⟩⟩
  obtain ⟨hl, hv⟩ := c.listed hp
  obtain ⟨o, ho⟩ : ∃ o, ops[p.1]? = some o := ⟨_, Array.getElem?_eq_getElem hl⟩
  refine ⟨o, ho, fun e he hb => ?_⟩
  obtain ⟨q1, q2⟩ := c.downV p.1 o ho ⟨hl, hv⟩ e he hb
  cases ha : act.getD e.on false with
  | true => rfl
  | false =>
    exfalso
    have hf : act.getD e.on true = false := (act_tf (by rw [c.sz]; exact q1)).2 (by rw [ha]; simp)
    refine q2 ((c.part _ q1).2 ⟨hf, fun q hq e' => ?_⟩)
    have := hmin _ (List.mem_map_of_mem hq)
    have := (okR_spec hok ho).1 e he hb
    omega
def rdy (ops : Array Oper) (todo : List Nat) (i : Nat) : Bool := match ops[i]? with
  | some o => o.after.all fun e => !Region.binds .any e || !inL todo e.on
  | none => false
theorem Cfg.ready_v (c : Cfg P ops n hro m0 w0 todo t h m a w act pend) {i : Nat} (hi : i ∈ Region.ready .any ops act) (hp : ∀ p ∈ pend, p.1 ≠ i) : i ∈ todo ∧ rdy ops todo i = true := by
  obtain ⟨h0, o, ho, hall⟩ := mem_ready.1 hi
  have hlt := act_lt h0
  rw [c.sz] at hlt
  refine ⟨(c.part i hlt).2 ⟨h0, hp⟩, ?_⟩
  unfold rdy
  rw [ho]
  simp only
  rw [Array.all_eq_true_iff_forall_mem]
  intro e he
  cases hb : Region.binds .any e
  · rfl
  · simp only [Bool.not_true, Bool.false_or]
    cases hq : inL todo e.on
    · rfl
    · exfalso
      have h1 := hall e he hb
      have h2 := inL_iff.1 hq
      have h3 := c.tod _ h2
      have h4 := ((c.part _ h3).1 h2).1
      exact (act_tf (by rw [c.sz]; exact h3)).1 h4 h1
theorem split_of : ∀ {l : List Pend} {p : Pend}, p ∈ l → ∃ a b, l = a ++ p :: b := fun h => List.append_of_mem h
/-- THE CORE: all is done, or whichever may come up. -/
theorem DR.core (hok : okR ops = true) (h1 : todo = [] → K ⟨n, t, hro ++ h⟩)
    (h2 : ∀ i ∈ todo, rdy ops todo i = true → ∃ R, EOp P ops n i (restr (readsAt ops i) t) hro h R ∧ ∀ v h', R v h' → DR P ops K n hro (todo.filter (fun j => !Nat.beq j i)) (tadd (dstAt ops i) v t) h') : DR P ops K n hro todo t h := by
  intro m0 w0 m a w act pend fuel c hf
  induction fuel generalizing m a w act pend with
  | zero =>
    have hno : ∀ i, act.getD i true ≠ false := fun i hi => by
      have := left_lt (n := ops.size) c.sz hi; omega
    have hp : pend = [] := by
      cases pend with
      | nil => rfl
      | cons p r => exact absurd (c.un p (by simp)) (hno _)
    subst hp
    have ht : todo = [] := by
      cases todo with
      | nil => rfl
      | cons i r => exact absurd ((c.part i (c.tod i (by simp))).1 (by simp)).1 (hno _)
    refine ⟨?_, rfl, _, h1 ht, m, c.base.with fun x v hv => c.i2 x v hv (by simp)⟩
    cases hr : Region.ready .any ops act with
    | nil => rfl
    | cons i r => exact absurd (mem_ready.1 (hr ▸ List.mem_cons_self ..)).1 (hno i)
  | succ fuel ih =>
    refine ⟨fun hr => ?_, fun i hi => ?_⟩
    · have hp : pend = [] := by
        cases hp : pend with
        | nil => rfl
        | cons p r =>
          obtain ⟨q, _, hq⟩ := c.some_ready hok (by simp [hp])
          rw [hr] at hq; cases hq
      subst hp
      have ht : todo = [] := by
        cases ht : todo with
        | nil => rfl
        | cons i0 r0 =>
          exfalso
          obtain ⟨x, hx, hmin⟩ := min_of todo (by simp [ht])
          have hl := c.tod x hx
          obtain ⟨o, ho⟩ : ∃ o, ops[x]? = some o := ⟨_, Array.getElem?_eq_getElem hl⟩
          have : x ∈ Region.ready .any ops act := by
            refine mem_ready.2 ⟨((c.part x hl).1 hx).1, o, ho, fun e he hb => ?_⟩
            have hlt := (okR_spec hok ho).1 e he hb
            cases ha : act.getD e.on false with
            | true => rfl
            | false =>
              exfalso
              have := hmin e.on ((c.part e.on (by omega)).2 ⟨(act_tf (by rw [c.sz]; omega)).2 (by rw [ha]; simp), by simp⟩)
              omega
          rw [hr] at this; cases this
      exact ⟨rfl, _, h1 ht, m, c.base.with fun x v hv => c.i2 x v hv (by simp)⟩
    · have h0 := (mem_ready.1 hi).1
      have hlt := act_lt h0
      have hleft := left_lt (n := ops.size) c.sz h0
      by_cases hp : ∃ p ∈ pend, p.1 = i
      · obtain ⟨p, hp, rfl⟩ := hp
        obtain ⟨l, r, hlr⟩ := split_of hp
        refine wpOp_mono ?_ (c.perform hok hlr hi _)
        rintro a' w' ⟨m', c'⟩
        exact ih _ _ _ _ _ c' (by omega)
      · have hp : ∀ p ∈ pend, p.1 ≠ i := fun p hpp e => hp ⟨p, hpp, e⟩
        obtain ⟨ht, hrd⟩ := c.ready_v hi hp
        obtain ⟨R, ⟨hd, he⟩, hk⟩ := h2 i ht hrd
        have hil : i < ops.size := by rw [← c.sz]; exact hlt
        obtain ⟨oi, hoi⟩ : ∃ o, ops[i]? = some o := ⟨_, Array.getElem?_eq_getElem hil⟩
        have hra : readsAt ops i = readsOf ops oi := by unfold readsAt; rw [hoi]
        have hdst : ∀ {x}, dstAt ops i = some x → oi.dst = some x := fun h => by unfold dstAt at h; rw [hoi] at h; exact h
        have htr : TRel m (restr (readsAt ops i) t) a.tmps := fun x v hv => by
          obtain ⟨q1, q2⟩ := get_restr_some hv
          refine c.i2 x v q2 fun p hpp hx => ?_
          rw [hra] at q1
          rcases ((okR_spec hok hoi).2 p.1 x (hp p hpp) hx).2 q1 with ha | ha
          · exact c.not_act hpp (c.anc_act hi ha (hp p hpp))
          · exact ((c.downV.anc (c.listed hpp) ha).2) ht
        refine wpOp_mono ?_ (he m0 w0 m a w (c.base.with htr) _)
        rintro a' w' ⟨v, h', hR, m', u, g1, g2, g3, g4⟩
        refine hk v h' hR m0 w0 m' a' w' (act.setIfInBounds i true) pend fuel ?_ (by omega)
        have hpx : ∀ p ∈ pend, ∀ x, x ∈ readsAt ops p.1 → dstAt ops i ≠ some x := by
          intro p hpp x hx hdx
          unfold readsAt at hx
          cases ho : ops[p.1]? with
          | none => rw [ho] at hx; cases hx
          | some oq =>
            rw [ho] at hx
            rcases ((okR_spec hok ho).2 i x (Ne.symm (hp p hpp)) hdx).2 hx with ha | ha
            · exact (c.downV.anc (c.listed hpp) ha).2 ht
            · exact c.not_act hpp (c.anc_act hi ha (hp p hpp))
        have hdd : ∀ p ∈ pend, ∀ x, dstAt ops p.1 = some x → dstAt ops i ≠ some x := fun p hpp x hx hdx =>
          ((okR_spec hok hoi).2 p.1 x (hp p hpp) hx).1 (hdst hdx)
        have hget : ∀ x, dstAt ops i ≠ some x → get (tadd (dstAt ops i) v t) x = get t x := fun x hx => by
          cases hd : dstAt ops i with
          | none => rfl
          | some d => simp only [tadd]; rw [get_eq, if_neg (fun e => hx (by rw [hd, e]))]
        have hmemf : ∀ j, j ∈ todo.filter (fun j => !Nat.beq j i) ↔ j ∈ todo ∧ j ≠ i := fun j => by
          rw [List.mem_filter]
          cases hb : Nat.beq j i
          · simp; intro _ e; subst e; simp at hb
          · simp; intro _; exact Nat.eq_of_beq_eq_true hb
        exact
          { base := g4
            sz := by rw [Array.size_setIfInBounds]; exact c.sz
            part := fun j hj => by
              rw [hmemf, c.part j hj, set_false hlt]
              constructor
              · rintro ⟨⟨q1, q2⟩, q3⟩; exact ⟨⟨q1, Ne.symm q3⟩, q2⟩
              · rintro ⟨⟨q1, q3⟩, q2⟩; exact ⟨⟨q1, q2⟩, Ne.symm q3⟩
            tod := fun j hj => c.tod j ((hmemf j).1 hj).1
            un := fun q hq => (set_false hlt).2 ⟨c.un q hq, Ne.symm (hp q hq)⟩
            nd := c.nd
            downV := fun j oj hj hl e hee hb => by
              refine ⟨?_, fun hin => ?_⟩
              · have := (okR_spec hok hj).1 e hee hb; omega
              · obtain ⟨k1, k2⟩ := (hmemf _).1 hin
                by_cases hji : j = i
                · subst hji
                  rw [hoi] at hj; injection hj with hj; subst hj
                  obtain ⟨_, o', ho', hall⟩ := mem_ready.1 hi
                  rw [hoi] at ho'; injection ho' with ho'; subst ho'
                  have h5 := hall e hee hb
                  have h6 := c.tod _ k1
                  exact (act_tf (by rw [c.sz]; exact h6)).1 ((c.part _ h6).1 k1).1 h5
                · exact (c.downV j oj hj ⟨hl.1, fun hjt => hl.2 ((hmemf j).2 ⟨hjt, hji⟩)⟩ e hee hb).2 k1
            downA := c.down_add hi
            ev := fun q hq => ⟨(c.ev q hq).1, fun m0 w0 m2 a w h g => (c.ev q hq).2 m0 w0 m2 a w h (g1.trans g)⟩
            i2 := fun x v' hv hq => by
              rw [g2]
              by_cases hx : dstAt ops i = some x
              · rw [hx] at hv ⊢
                simp only [tadd] at hv
                rw [get_eq, if_pos rfl] at hv
                injection hv with hv; subst hv
                exact ⟨u, c.tmp_put (hd x hx), g3⟩
              · rw [hget x hx] at hv
                obtain ⟨u', q1, q2⟩ := c.i2 x v' hv hq
                exact ⟨u', by rw [tmp_other hx]; exact q1, q2.mono g1⟩
            i3 := fun q hq x v' hv hw => by
              obtain ⟨u', q1, q2⟩ := c.i3 q hq x v' hv hw
              have hx := hpx q hq x (c.i3r q hq x v' hv)
              exact ⟨u', by rw [g2, tmp_other hx]; exact q1, q2.mono g1⟩
            i3r := c.i3r
            i4 := fun q hq x hx => by rw [hget x (hdd q hq x hx)]; exact c.i4 q hq x hx
            i5 := c.i5 }
/-- What only looks: it is taken now. -/
theorem DR.take (hok : okR ops = true) {i : Nat} {v : AV} {d : Nat} (hi : i ∈ todo) (hr : rdy ops todo i = true) (hd : dstAt ops i = some d) (hp : ∀ m, PendOk P ops n hro m (i, restr (readsAt ops i) t, v))
    (k : DR P ops K n hro (todo.filter (fun j => !Nat.beq j i)) ((d, v) :: t) h) : DR P ops K n hro todo t h := by
  intro m0 w0 m a w act pend fuel c hf
  have hil := c.tod i hi
  obtain ⟨hia, hip⟩ := (c.part i hil).1 hi
  obtain ⟨oi, hoi⟩ : ∃ o, ops[i]? = some o := ⟨_, Array.getElem?_eq_getElem hil⟩
  have hra : readsAt ops i = readsOf ops oi := by unfold readsAt; rw [hoi]
  have hdo : oi.dst = some d := by unfold dstAt at hd; rw [hoi] at hd; exact hd
  have hmemf : ∀ j, j ∈ todo.filter (fun j => !Nat.beq j i) ↔ j ∈ todo ∧ j ≠ i := fun j => by
    rw [List.mem_filter]
    cases hb : Nat.beq j i
    · simp; intro _ e; subst e; simp at hb
    · simp; intro _; exact Nat.eq_of_beq_eq_true hb
  have hall : ∀ e ∈ oi.after, Region.binds .any e = true → e.on ∉ todo := fun e he hb hin => by
    unfold rdy at hr
    rw [hoi] at hr
    have := Array.all_eq_true_iff_forall_mem.1 hr e he
    rw [hb, inL_iff.2 hin] at this
    simp at this
  have hself : ∀ q ∈ pend, ¬ anc ops q.1 i := fun q hq ha => (c.downV.anc (c.listed hq) ha).2 hi
  have hdne : ∀ q ∈ pend, dstAt ops q.1 ≠ some d := fun q hq hx => ((okR_spec hok hoi).2 q.1 d (hip q hq) hx).1 hdo
  refine k m0 w0 m a w act (pend ++ [(i, restr (readsAt ops i) t, v)]) fuel ?_ hf
  have hcase : ∀ q ∈ pend ++ [(i, restr (readsAt ops i) t, v)], q ∈ pend ∨ q = (i, restr (readsAt ops i) t, v) := fun q hq => by simpa using hq
  exact
    { base := c.base
      sz := c.sz
      part := fun j hj => by
        rw [hmemf, c.part j hj]
        constructor
        · rintro ⟨⟨q1, q2⟩, q3⟩
          exact ⟨q1, fun p hp => by rcases hcase p hp with hp | rfl; exact q2 p hp; exact Ne.symm q3⟩
        · rintro ⟨q1, q2⟩
          exact ⟨⟨q1, fun p hp => q2 p (List.mem_append_left _ hp)⟩, Ne.symm (q2 (i, restr (readsAt ops i) t, v) (by simp))⟩
      tod := fun j hj => c.tod j ((hmemf j).1 hj).1
      un := fun q hq => by rcases hcase q hq with hq | rfl; exact c.un q hq; exact hia
      nd := by
        rw [List.map_append, List.nodup_append]
        refine ⟨c.nd, by simp, fun x hx y hy e => ?_⟩
        obtain ⟨q, hq, rfl⟩ := List.mem_map.1 hx
        simp at hy
        exact hip q hq (by rw [e, hy])
      downV := fun j oj hj hl e hee hb => by
        refine ⟨?_, fun hin => ?_⟩
        · have := (okR_spec hok hj).1 e hee hb; omega
        · obtain ⟨k1, k2⟩ := (hmemf _).1 hin
          by_cases hji : j = i
          · subst hji
            rw [hoi] at hj; injection hj with hj; subst hj
            exact hall e hee hb k1
          · exact (c.downV j oj hj ⟨hl.1, fun hjt => hl.2 ((hmemf j).2 ⟨hjt, hji⟩)⟩ e hee hb).2 k1
      downA := c.downA
      ev := fun q hq => by rcases hcase q hq with hq | rfl; exact c.ev q hq; exact hp m
      i2 := fun x v' hv hq => by
        have hxd : d ≠ x := fun e => hq (i, restr (readsAt ops i) t, v) (by simp) (by rw [hd, e])
        rw [get_eq, if_neg hxd] at hv
        exact c.i2 x v' hv fun p hp => hq p (List.mem_append_left _ hp)
      i3 := fun q hq x v' hv hw => by
        rcases hcase q hq with hq | rfl
        · exact c.i3 q hq x v' hv fun p hp => hw p (List.mem_append_left _ hp)
        · obtain ⟨q1, q2⟩ := get_restr_some hv
          refine c.i2 x v' q2 fun p hp hx => ?_
          rw [hra] at q1
          rcases ((okR_spec hok hoi).2 p.1 x (hip p hp) hx).2 q1 with ha | ha
          · exact hw p (List.mem_append_left _ hp) (hip p hp) ha hx
          · exact hself p hp ha
      i3r := fun q hq x v' hv => by
        rcases hcase q hq with hq | rfl
        · exact c.i3r q hq x v' hv
        · exact (get_restr_some hv).1
      i4 := fun q hq x hx => by
        rcases hcase q hq with hq | rfl
        · have : d ≠ x := fun e => hdne q hq (by rw [hx, e])
          rw [get_eq, if_neg this]
          exact c.i4 q hq x hx
        · simp only at hx
          rw [hd] at hx; injection hx with hx; subst hx
          rw [get_eq, if_pos rfl]
      i5 := fun q hq q' hq' hne ha x hx v' hv => by
        rcases hcase q hq with hq | rfl
        · rcases hcase q' hq' with hq' | rfl
          · exact c.i5 q hq q' hq' hne ha x hx v' hv
          · exact absurd ha (hself q hq)
        · rcases hcase q' hq' with hq' | rfl
          · obtain ⟨q1, q2⟩ := get_restr_some hv
            have := c.i4 q' hq' x hx
            rw [q2] at this; injection this
          · exact absurd rfl hne }
end
theorem W.dr0 {n : Nat} {t : List (Nat × AV)} {hp hro rest : Heap} {id : Nat} {Q : Exit → St → Prop} [hm : TMix P] (sel : Sel hp hro rest) (k : DR P ops (Q .normal) n hro (List.range ops.size) t rest) : W P (.region id ops true) Q ⟨n, t, hp⟩ := by
  intro m0 w0 a w hs
  obtain ⟨m, hs⟩ := (hs.le (s' := ⟨n, t, hro ++ rest⟩) ⟨rfl, .refl, LeH.of_perm sel.perm⟩).drew
  refine wp_mono (Q := fun e a' w' => e = .normal ∧ ∃ s', Q .normal s' ∧ Sim m0 w0 s' a' w') (Q' := fun e a' w' => ∃ s', Q e s' ∧ Sim m0 w0 s' a' w') (wp_region_any hm.h ?_) ?_
  · refine k m0 w0 m a _ (Array.replicate ops.size false) [] ops.size ?_ ?_
    · have hrep : ∀ i, i < ops.size → (Array.replicate ops.size false).getD i true = false := fun i hi => by simp [Array.getD_eq_getD_getElem?, hi]
      have hrepf : ∀ i, ¬ (Array.replicate ops.size false).getD i false = true := fun i hi => by
        rw [Array.getD_eq_getD_getElem?] at hi
        by_cases hl : i < ops.size
        · simp [hl] at hi
        · simp [hl] at hi
      exact
        { base := hs.bare
          sz := by simp
          part := fun i hi => by simp [hi, hrep i hi]
          tod := fun i hi => List.mem_range.1 hi
          un := by simp
          nd := by simp
          downV := fun j o hj hl => absurd (List.mem_range.2 hl.1) hl.2
          downA := fun j o hj hl => absurd hl (hrepf j)
          ev := by simp
          i2 := fun x v hv _ => hs.tmps x v hv
          i3 := by simp
          i3r := by simp
          i4 := by simp
          i5 := by simp }
    · exact Nat.le_trans List.countP_le_length (by simp)
  · rintro e a' w' ⟨rfl, s', h1, h2⟩
    exact ⟨s', h1, h2⟩
end
end Go.VM
