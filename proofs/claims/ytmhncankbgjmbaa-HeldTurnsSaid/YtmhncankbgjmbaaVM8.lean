import Derived.Test.YtmhncankbgjmbaaVM7
namespace Go.VM
open Go
set_option linter.unusedVariables false
set_option linter.unusedSimpArgs false
section
variable {P : Program} {ops : Array Oper} {s : St} {K : St → Prop} {hro : Heap} {t1 : List (Nat × AV)} {listed : Array Bool} {fuel : Nat}
/-! ### Regions that draw their order -/
def D (P : Program) (ops : Array Oper) (K : St → Prop) (hro : Heap) (t1 : List (Nat × AV)) (listed : Array Bool) (fuel : Nat) (s : St) : Prop :=
  ∀ (m0 : GF) (w0 : World) (m1 : Ghost) (wr : World) (m : Ghost) (a : Act) (w : World), SimG m0 w0 m { s with h := hro ++ s.h } a w → Gle m1 m → Holds m1 wr → HRel m1 hro wr → TRel m1 t1 a.tmps → (Holds m1 w ∧ Agr hro wr w) →
    wpAnyH P .any ops (fun e a' w' => e = .normal ∧ ∃ s', K s' ∧ Sim m0 w0 s' a' w') (fun w' => Holds m1 w' ∧ Agr hro wr w') fuel listed a w
/-- The guard's slot says that the operation is carried out (or not). -/
def Wanted (ops : Array Oper) (t : List (Nat × AV)) (o : Oper) (yes : Bool) : Prop :=
  match o.guard with
  | none => yes = true
  | some (j, want) => ∃ d, (ops[j]?).bind (·.dst) = some d ∧ ((∃ b, get t d = some (.val (.bool b)) ∧ yes = (b == want)) ∨ (get t d = some (.tup []) ∧ yes = false))
theorem Wanted.spec {m : Ghost} {t : List (Nat × AV)} {o : Oper} {yes : Bool} {a : Act} (h : Wanted ops t o yes) (ht : TRel m t a.tmps) : Region.wanted o (yielded ops a.tmps) = yes := by
  unfold Wanted at h
  unfold Region.wanted
  split at h
  · rename_i hg; rw [hg]; exact h.symm
  · rename_i j want hg
    obtain ⟨d, h1, ⟨b, h2, h3⟩ | ⟨h2, h3⟩⟩ := h
    · rw [hg]
      obtain ⟨u, g1, g2⟩ := ht d _ h2
      simp only [Rel] at g2
      obtain ⟨rfl, _⟩ := g2
      have : yielded ops a.tmps j = some b := by simp [yielded, h1, g1]
      simp only [this, h3]
      cases b <;> cases want <;> rfl
    · rw [hg]
      obtain ⟨u, g1, g2⟩ := ht d _ h2
      simp only [Rel, RelL] at g2
      obtain ⟨cs, rfl, _⟩ := g2
      have : yielded ops a.tmps j = none := by simp [yielded, h1, g1]
      simp only [this, h3]
      rfl
theorem D.put {m0 : GF} {w0 : World} {m : Ghost} {a : Act} {w : World} {dst : Option Nat} {v : AV} {u : Value} (hs : SimG m0 w0 m { s with h := hro ++ s.h } a w) (hf : fits s dst = true) (hv : Rel m v u) :
    SimG m0 w0 m { (s.put dst v) with h := hro ++ (s.put dst v).h } (a.put dst u) w := by
  have := SimG.put hs (dst := dst) hf hv
  cases dst <;> exact this
def tadd (dst : Option Nat) (v : AV) (t : List (Nat × AV)) : List (Nat × AV) := match dst with | some d => (d, v) :: t | none => t
theorem tputs {m : Ghost} {t : List (Nat × AV)} {a : Act} {dst : Option Nat} {v : AV} {u : Value} {n : Nat} (ht : TRel m t a.tmps) (hs : a.tmps.size = n) (hf : fits ⟨n, [], []⟩ dst = true) (hv : Rel m v u) : TRel m (tadd dst v t) (a.put dst u).tmps := by
  cases dst with
  | none => exact ht
  | some d => exact ht.put (by rw [hs]; simpa [fits] using hf) hv
/-- Nothing of t is written. -/
theorem tkeep {m : Ghost} {t : List (Nat × AV)} {a : Act} {dst : Option Nat} {u : Value} (ht : TRel m t a.tmps) (hd : ∀ d, dst = some d → get t d = none) : TRel m t (a.put dst u).tmps := by
  cases dst with
  | none => exact ht
  | some d =>
    intro i v hv
    obtain ⟨y, h1, h2⟩ := ht i v hv
    refine ⟨y, ?_, h2⟩
    have : d ≠ i := fun e => by rw [← e, hd d rfl] at hv; cases hv
    simp only [Act.put]
    rw [Array.getElem?_setIfInBounds_ne this]; exact h1
/-- An operation that reads (what is not written here), or looks at its operands alone. -/
theorem D.take (i : Nat) {oi : Oper} {v : AV} (hi : ops[i]? = some oi) (hsel : Region.noSelect ops = true) (hfr : Region.free .any ops listed i = true) (hr : (Region.ready .any ops listed).contains i = true)
    (hw : Wanted ops s.t oi true) (hp : Pur P oi t1 hro v) (hf : fits s oi.dst = true) (k : D P ops K hro (tadd oi.dst v t1) (listed.setIfInBounds i true) fuel (s.put oi.dst v)) : D P ops K hro t1 listed (fuel + 1) s := by
  intro m0 w0 m1 wr m a w hs g1 g2 g3 g4 g5
  obtain ⟨u, hu, hrun⟩ := hp m1 a wr g4 g2 g3
  refine wpAnyH_take hi hsel hfr hr (fun c a w h => by simp at h) (v := u) (.inl ⟨hw.spec hs.tmps, fun w' hw' => hrun w' hw'.1 hw'.2⟩) g5 ?_
  exact k m0 w0 m1 wr m _ w (D.put hs hf (hu.mono g1)) g1 g2 g3 (tputs g4 hs.size hf hu) g5
/-- An operation that looks at its operands alone, which this region may have made. -/
theorem D.takeV (i : Nat) {oi : Oper} {v : AV} (hi : ops[i]? = some oi) (hsel : Region.noSelect ops = true) (hfr : Region.free .any ops listed i = true) (hr : (Region.ready .any ops listed).contains i = true)
    (hw : Wanted ops s.t oi true) (hp : PurV P oi s.t (hro ++ s.h) v) (hf : fits s oi.dst = true) (hd : ∀ d, oi.dst = some d → get t1 d = none) (k : D P ops K hro t1 (listed.setIfInBounds i true) fuel (s.put oi.dst v)) : D P ops K hro t1 listed (fuel + 1) s := by
  intro m0 w0 m1 wr m a w hs g1 g2 g3 g4 g5
  obtain ⟨u, hu, hrun⟩ := hp m a w hs.tmps hs.holds hs.heap
  refine wpAnyH_take hi hsel hfr hr (fun c a w h => by simp at h) (v := u) (.inl ⟨hw.spec hs.tmps, fun w' _ => hrun w'⟩) g5 ?_
  exact k m0 w0 m1 wr m _ w (D.put hs hf hu) g1 g2 g3 (tkeep g4 hd) g5
/-- A guarded operation that is left out. -/
theorem D.skip (i : Nat) {oi : Oper} (hi : ops[i]? = some oi) (hsel : Region.noSelect ops = true) (hfr : Region.free .any ops listed i = true) (hr : (Region.ready .any ops listed).contains i = true)
    (hw : Wanted ops s.t oi false) (hf : fits s oi.dst = true) (k : D P ops K hro (tadd oi.dst (.tup []) t1) (listed.setIfInBounds i true) fuel (s.put oi.dst (.tup []))) : D P ops K hro t1 listed (fuel + 1) s := by
  intro m0 w0 m1 wr m a w hs g1 g2 g3 g4 g5
  refine wpAnyH_take hi hsel hfr hr (fun c a w h => by simp at h) (v := undef) (.inr ⟨hw.spec hs.tmps, rfl⟩) g5 ?_
  exact k m0 w0 m1 wr m _ w (D.put hs hf rel_undef) g1 g2 g3 (tputs g4 hs.size hf rel_undef) g5
/-- Whichever comes up. -/
theorem D.branch (rs : List Nat) (hr : Region.ready .any ops listed = rs) (hne : rs ≠ [])
    (k : ∀ i ∈ rs, ∃ oi, ops[i]? = some oi ∧ Wanted ops s.t oi true ∧ Step P oi s (fun s' => D P ops K hro [] (listed.setIfInBounds i true) fuel s')) : D P ops K hro t1 listed (fuel + 1) s := by
  intro m0 w0 m1 wr m a w hs g1 g2 g3 g4 g5
  refine wpAnyH_all hr hne fun i hi => ?_
  obtain ⟨oi, hoi, hw, hst⟩ := k i hi
  have hnd := hs.heap.1
  have hro_in : ∀ x ∈ hro, x ∈ hro ++ s.h := fun x hx => List.mem_append_left _ hx
  have hsh_in : ∀ x ∈ s.h, x ∈ hro ++ s.h := fun x hx => List.mem_append_right _ hx
  have hdisj : ∀ x ∈ hro, ∀ b, x.blk = some b → ¬ ∃ y ∈ s.h, y.blk = some b := by
    intro x hx b hb hy
    rw [List.filterMap_append, List.nodup_append] at hnd
    obtain ⟨y, hy, hyb⟩ := hy
    exact hnd.2.2 b (mem_blks.2 ⟨x, hx, hb⟩) b (mem_blks.2 ⟨y, hy, hyb⟩) rfl
  have hs1 : SimG (m, fun b => ∃ y ∈ s.h, y.blk = some b) w m s a w :=
    ⟨Gle.refl m, fun b o e => .inl e, fun _ _ _ => rfl, fun x hx b hb => .inl ⟨x, hx, hb⟩, hs.holds, Same.refl w, hs.defers, hs.size, hs.tmps, hs.heap.sub (List.sublist_append_right _ _)⟩
  have h1 := hst _ w a w ⟨m, hs1⟩ (fun e a' w' => e = .normal ∧ ∃ s', K s' ∧ Sim m0 w0 s' a' w')
  unfold wpOp
  simp only [hoi]
  rw [if_pos (hw.spec hs.tmps)]
  left
  refine Oper.wp_mono ?_ h1
  rintro a' w' ⟨s', hk, m', hs'⟩
  have hszw := hs'.same.size
  have hblk : ∀ x ∈ hro, ∀ b, x.blk = some b → b < w.heap.size := fun x hx b hb => (hs.heap.2 x (hro_in x hx)).2.lt hb
  have hfix : ∀ x ∈ hro, ∀ b, x.blk = some b → w'.heap[b]? = w.heap[b]? := fun x hx b hb => hs'.frame b (hblk x hx b hb) (hdisj x hx b hb)
  have hro' : ∀ x ∈ hro, (∀ b, x.blk = some b → m' b = none) ∧ OERel m' w' x := by
    intro x hx
    refine ⟨fun b hb => ?_, ((hs.heap.2 x (hro_in x hx)).2.mono hs'.le).local (hfix x hx)⟩
    cases hmb : m' b with
    | none => rfl
    | some o =>
      rcases hs'.grow b o hmb with h | h | h
      · have h : m b = some o := h
        rw [(hs.heap.2 x (hro_in x hx)).1 b hb] at h; cases h
      · exact absurd h (hdisj x hx b hb)
      · have := hblk x hx b hb; omega
  have hheap : HRel m' (hro ++ s'.h) w' := by
    refine ⟨?_, fun x hx => ?_⟩
    · rw [List.filterMap_append, List.nodup_append]
      rw [List.filterMap_append, List.nodup_append] at hnd
      refine ⟨hnd.1, hs'.heap.1, fun b hb c hc e => ?_⟩
      subst e
      obtain ⟨x, hx, hxb⟩ := mem_blks.1 hb
      obtain ⟨y, hy, hyb⟩ := mem_blks.1 hc
      rcases hs'.own y hy b hyb with h | h
      · exact hdisj x hx b hxb h
      · have := hblk x hx b hxb; omega
    · rw [List.mem_append] at hx
      rcases hx with hx | hx
      · exact hro' x hx
      · exact hs'.heap.2 x hx
  have hF : ∀ b, (∃ y ∈ s.h, y.blk = some b) → m0.2 b ∨ w0.heap.size ≤ b := fun b ⟨y, hy, hb⟩ => hs.own y (hsh_in y hy) b hb
  have hsz := hs.same.size
  have hnew : SimG m0 w0 m' { s' with h := hro ++ s'.h } a' w' :=
    { le := hs.le.trans hs'.le
      grow := fun b o e => by
        rcases hs'.grow b o e with h | h | h
        · exact hs.grow b o h
        · rcases hF b h with h | h <;> simp [h]
        · right; right; omega
      frame := fun b q1 q2 => (hs'.frame b (by omega) (fun hy => by rcases hF b hy with h | h; exact q2 h; omega)).trans (hs.frame b q1 q2)
      own := fun y hy b hb => by
        simp only [List.mem_append] at hy
        rcases hy with hy | hy
        · exact hs.own y (hro_in y hy) b hb
        · rcases hs'.own y hy b hb with h | h
          · exact hF b h
          · right; omega
      holds := hs'.holds
      same := hs.same.trans hs'.same
      defers := hs'.defers
      size := hs'.size
      tmps := hs'.tmps
      heap := hheap }
  have hS : Holds m1 w' ∧ Agr hro wr w' := ⟨fun b o e => hs'.holds b o (hs'.le b o (g1 b o e)), fun x hx b hb => (hfix x hx b hb).trans (g5.2 x hx b hb)⟩
  exact ⟨hS, hk m0 w0 m1 wr m' a' w' hnew (g1.trans hs'.le) g2 g3 (fun i v h => by simp [get] at h) hS⟩
theorem D.done (hr : Region.ready .any ops listed = []) (k : K { s with h := hro ++ s.h }) : D P ops K hro t1 listed fuel s := by
  intro m0 w0 m1 wr m a w hs _ _ _ _ _
  exact wpAnyH_done hr ⟨rfl, _, k, m, hs⟩ fuel
theorem Sim.drew {m0 : GF} {w0 : World} {a : Act} {w : World} (h : Sim m0 w0 s a w) : Sim m0 w0 s a { w with drawn := w.drawn + 1 } := by
  obtain ⟨m, hm⟩ := h
  exact ⟨m, { hm with holds := hm.holds, same := ⟨hm.same.os, hm.same.tape, hm.same.output, hm.same.size⟩, heap := ⟨hm.heap.1, fun x hx => ⟨(hm.heap.2 x hx).1, (hm.heap.2 x hx).2.local (w' := { w with drawn := w.drawn + 1 }) fun _ _ => rfl⟩⟩, frame := hm.frame }⟩
class TMix (P : Program) : Prop where h : P.follows .mixedOrders = true
theorem W.draw {id : Nat} {Q : Exit → St → Prop} [hm : TMix P] (hro rest : Heap) (hsp : LeH s.h (hro ++ rest)) (k : D P ops (Q .normal) hro s.t (Array.replicate ops.size false) ops.size { s with h := rest }) : W P (.region id ops true) Q s := by
  intro m0 w0 a w hs
  obtain ⟨m, hs⟩ := (hs.le (s' := { s with h := hro ++ rest }) ⟨rfl, LeT.refl, hsp⟩).drew
  refine wp_mono (Q := fun e a' w' => e = .normal ∧ ∃ s', Q .normal s' ∧ Sim m0 w0 s' a' w') (Q' := fun e a' w' => ∃ s', Q e s' ∧ Sim m0 w0 s' a' w') (wp_region_held (S := fun w' => Holds m w' ∧ Agr hro { w with drawn := w.drawn + 1 } w') hm.h ?_) ?_
  · exact k m0 w0 m _ m a _ hs (Gle.refl m) hs.holds (hs.heap.sub (List.sublist_append_left _ _)) hs.tmps ⟨hs.holds, fun _ _ _ _ => rfl⟩
  · rintro e a' w' ⟨rfl, s', h1, h2⟩
    exact ⟨s', h1, h2⟩
end
end Go.VM
