/- Freezing an owned slice that lies in an owned map, too. No condition. -/
import Derived.Test.YtkpbbiknhhmfiaaVM34
import Derived.Test.YtkpbbiknhhmfiaaU3
namespace Go.VM
open Go
set_option linter.unusedVariables false
set_option linter.unusedSimpArgs false
inductive FrzG (v : Value) (k : Nat) (l : List AV) : Heap → Heap → Prop
  | rest (h : Heap) : FrzG v k l h h
  | keep (x : OE) {h h' : Heap} (r : FrzG v k l h h') : FrzG v k l (x :: h) (x :: h')
  | box {b ty : Nat} {c c' : List AV} {h h' : Heap} (q : Frz v k l (.agg c) (.agg c')) (r : FrzG v k l h h') : FrzG v k l (.box b c ty :: h) (.box b c' ty :: h')
  | mp {b : Nat} {ks : List Value} {c c' : List AV} {h h' : Heap} (q : Frz v k l (.agg c) (.agg c')) (r : FrzG v k l h h') : FrzG v k l (.mp b ks c :: h) (.mp b ks c' :: h')
theorem FrzG.mem {v : Value} {k : Nat} {l : List AV} {h h' : Heap} (q : FrzG v k l h h') : ∀ x ∈ h', ∃ y ∈ h, y.blk = x.blk ∧ (y = x ∨ (∃ b c c' ty, y = .box b c ty ∧ x = .box b c' ty ∧ Frz v k l (.agg c) (.agg c')) ∨ ∃ b ks c c', y = .mp b ks c ∧ x = .mp b ks c' ∧ Frz v k l (.agg c) (.agg c')) := by
  induction q with
  | rest h => exact fun x hx => ⟨x, hx, rfl, .inl rfl⟩
  | keep x r ih =>
    intro z hz
    rcases List.mem_cons.1 hz with rfl | hz
    · exact ⟨z, .head _, rfl, .inl rfl⟩
    · obtain ⟨y, h1, h2⟩ := ih z hz; exact ⟨y, .tail _ h1, h2⟩
  | box q r ih =>
    intro z hz
    rcases List.mem_cons.1 hz with rfl | hz
    · exact ⟨_, .head _, rfl, .inr (.inl ⟨_, _, _, _, rfl, rfl, q⟩)⟩
    · obtain ⟨y, h1, h2⟩ := ih z hz; exact ⟨y, .tail _ h1, h2⟩
  | mp q r ih =>
    intro z hz
    rcases List.mem_cons.1 hz with rfl | hz
    · exact ⟨_, .head _, rfl, .inr (.inr ⟨_, _, _, _, rfl, rfl, q⟩)⟩
    · obtain ⟨y, h1, h2⟩ := ih z hz; exact ⟨y, .tail _ h1, h2⟩
theorem FrzG.blks {v : Value} {k : Nat} {l : List AV} {h h' : Heap} (q : FrzG v k l h h') : h'.filterMap OE.blk = h.filterMap OE.blk := by
  induction q with
  | rest h => rfl
  | keep x r ih => simp only [List.filterMap_cons, ih]
  | box q r ih => simp only [List.filterMap_cons, ih, OE.blk]
  | mp q r ih => simp only [List.filterMap_cons, ih, OE.blk]
theorem Frz.relL {v : Value} {k : Nat} {l : List AV} {c c' : List AV} (h : Frz v k l (.agg c) (.agg c')) {m m' : Ghost} (hm : Gle m m') (hv : Rel m' (.ro k l) v) {cs : List Value} (q : RelL m c cs) : RelL m' c' cs := by
  have r := h.rel hm hv (.agg cs.toArray) (by simp only [Rel]; exact ⟨_, rfl, by simpa using q⟩)
  simp only [Rel] at r
  obtain ⟨cs', e, r⟩ := r
  injection e with e
  rw [← e] at r
  simpa using r
theorem Sim.frzg {m0 : GF} {w0 : World} {n : Nat} {t t' : List (Nat × AV)} {h h1 h2 : Heap} {a : Act} {w : World} {v : Value} {k e : Nat} {l : List AV} (hs : Sim m0 w0 ⟨n, t, h⟩ a w)
    (tk : Tk h (.own v k l e) h1) (ht : FrzT v k l t t') (hh : FrzG v k l h1 h2) : Sim m0 w0 ⟨n, t', h2⟩ a w := by
  obtain ⟨m, q⟩ := hs
  have hown := q.heap.2 _ tk.old
  let m'' : Ghost := fun b => if ownBlk v = some b then w.heap[b]? else m b
  have hle : Gle m m'' := fun b o hb => by
    show (if ownBlk v = some b then w.heap[b]? else m b) = some o
    rw [if_neg (fun hv => by rw [hown.1 b hv] at hb; cases hb)]; exact hb
  have hat : ∀ b, ownBlk v = some b → m'' b = w.heap[b]? := fun b hb => if_pos hb
  have hro := own_ro hown.2 hle hat
  refine ⟨m'', ⟨q.le.trans hle, fun b o hb => ?_, q.frame, fun x hx b hb => ?_, fun b o hb => ?_, q.same, q.defers.mono hle, q.size, fun i y hy => ?_, ?_, fun x hx => ?_⟩⟩
  · have hb : (if ownBlk v = some b then w.heap[b]? else m b) = some o := hb
    split at hb
    · rename_i hv; exact .inr (q.own _ tk.old b hv)
    · exact q.grow b o hb
  · obtain ⟨y, g1, g2, _⟩ := hh.mem x hx
    exact q.own y (tk.sub.subset g1) b (g2.trans hb)
  · have hb : (if ownBlk v = some b then w.heap[b]? else m b) = some o := hb
    split at hb
    · exact hb
    · exact q.holds b o hb
  · obtain ⟨x, g1, g2⟩ := ht.get i y hy
    obtain ⟨u, g3, g4⟩ := q.tmps i x g1
    exact ⟨u, g3, g2.rel hle hro u g4⟩
  · show (h2.filterMap OE.blk).Nodup
    rw [hh.blks]; exact (tk.sub.filterMap _).nodup q.heap.1
  · obtain ⟨y, g1, g2, g3⟩ := hh.mem x hx
    have hy := q.heap.2 y (tk.sub.subset g1)
    refine ⟨fun b hb => ?_, ?_⟩
    · show (if ownBlk v = some b then w.heap[b]? else m b) = none
      rw [if_neg (show ¬ ownBlk v = some b from fun hv => tk.nodup q.heap.1 b hv y g1 (g2.trans hb))]
      exact hy.1 b (g2.trans hb)
    · rcases g3 with rfl | ⟨b, c, c', ty, rfl, rfl, g3⟩ | ⟨b, ks, c, c', rfl, rfl, g3⟩
      · exact hy.2.mono hle
      · have := hy.2
        simp only [OERel] at this ⊢
        obtain ⟨cs, q1, q2⟩ := this
        exact ⟨cs, q1, g3.relL hle hro q2⟩
      · have := hy.2
        simp only [OERel] at this ⊢
        obtain ⟨es, clk, es', q0, q1, q2, q3⟩ := this
        exact ⟨es, clk, es', q0, q1, q2, g3.relL hle hro q3⟩
section
variable {ro : Option Nat} {P : Program} {n : Nat} {t t' : List (Nat × AV)} {h h1 h2 : Heap} {v : Value} {k e : Nat} {l : List AV} {K : St → Prop}
theorem RL.frzg {ops : Array Oper} {rest : List Oper} (tk : Tk h (.own v k l e) h1) (ht : FrzT v k l t t') (hh : FrzG v k l h1 h2) (q : RL ro P ops rest ⟨n, t', h2⟩ K) : RL ro P ops rest ⟨n, t, h⟩ K := fun i hi m0 w0 a w hs => q i hi m0 w0 a w (hs.frzg tk ht hh)
/-- Entry by entry. -/
theorem frz_agg : ∀ {xs ys : List AV}, xs.length = ys.length → (∀ (i : Nat) (x y : AV), xs[i]? = some x → ys[i]? = some y → Frz v k l x y) → Frz v k l (.agg xs) (.agg ys)
  | [], [], _, _ => .aggn
  | [], _ :: _, h, _ => by cases h
  | _ :: _, [], h, _ => by cases h
  | x :: xs, y :: ys, h, he => .aggc (he 0 x y rfl rfl) (frz_agg (by simpa using h) fun i a b ha hb => he (i + 1) a b (by simpa using ha) (by simpa using hb))
end
end Go.VM
