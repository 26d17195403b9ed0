import Derived.Test.YtmhncankbgjmbaaVM11
namespace Go.VM
open Go
set_option linter.unusedVariables false
set_option linter.unusedSimpArgs false
/-! ### Freezing what is owned, at any time -/
inductive FrzT (v : Value) (k : Nat) (l : List AV) : List (Nat × AV) → List (Nat × AV) → Prop
  | rest (t : List (Nat × AV)) : FrzT v k l t t
  | cons {i : Nat} {x y : AV} {t t' : List (Nat × AV)} (h : Frz v k l x y) (r : FrzT v k l t t') : FrzT v k l ((i, x) :: t) ((i, y) :: t')
inductive FrzH (v : Value) (k : Nat) (l : List AV) : Heap → Heap → Prop
  | rest (h : Heap) : FrzH v k l h h
  | keep (x : OE) {h h' : Heap} (r : FrzH v k l h h') : FrzH v k l (x :: h) (x :: h')
  | box {b ty : Nat} {c c' : List AV} {h h' : Heap} (q : Frz v k l (.agg c) (.agg c')) (r : FrzH v k l h h') : FrzH v k l (.box b c ty :: h) (.box b c' ty :: h')
theorem FrzT.get {v : Value} {k : Nat} {l : List AV} {t t' : List (Nat × AV)} (h : FrzT v k l t t') : ∀ i y, VM.get t' i = some y → ∃ x, VM.get t i = some x ∧ Frz v k l x y := by
  induction h with
  | rest t => exact fun i y h => ⟨y, h, .keep _⟩
  | @cons j x y t t' h r ih =>
    intro i z hz
    rw [get_eq] at hz ⊢
    by_cases hj : j = i
    · rw [if_pos hj] at hz ⊢
      injection hz with hz; subst hz
      exact ⟨x, rfl, h⟩
    · rw [if_neg hj] at hz ⊢
      exact ih i z hz
theorem FrzH.mem {v : Value} {k : Nat} {l : List AV} {h h' : Heap} (q : FrzH v k l h h') : ∀ x ∈ h', ∃ y ∈ h, y.blk = x.blk ∧ (y = x ∨ ∃ b c c' ty, y = .box b c ty ∧ x = .box b c' ty ∧ Frz v k l (.agg c) (.agg c')) := by
  induction q with
  | rest h => exact fun x hx => ⟨x, hx, rfl, .inl rfl⟩
  | keep x r ih =>
    intro z hz
    rcases List.mem_cons.1 hz with rfl | hz
    · exact ⟨z, .head _, rfl, .inl rfl⟩
    · obtain ⟨y, h1, h2⟩ := ih z hz; exact ⟨y, .tail _ h1, h2⟩
  | box q r ih =>
    intro z hz
    rcases List.mem_cons.1 hz with rfl | hz
    · exact ⟨_, .head _, rfl, .inr ⟨_, _, _, _, rfl, rfl, q⟩⟩
    · obtain ⟨y, h1, h2⟩ := ih z hz; exact ⟨y, .tail _ h1, h2⟩
theorem FrzH.blks {v : Value} {k : Nat} {l : List AV} {h h' : Heap} (q : FrzH v k l h h') : h'.filterMap OE.blk = h.filterMap OE.blk := by
  induction q with
  | rest h => rfl
  | keep x r ih => simp only [List.filterMap_cons, ih]
  | box q r ih => simp only [List.filterMap_cons, ih, OE.blk]
theorem Sim.frz {m0 : GF} {w0 : World} {n : Nat} {t t' : List (Nat × AV)} {h h1 h2 : Heap} {a : Act} {w : World} {v : Value} {k e : Nat} {l : List AV} (hs : Sim m0 w0 ⟨n, t, h⟩ a w)
    (tk : Tk h (.own v k l e) h1) (ht : FrzT v k l t t') (hh : FrzH v k l h1 h2) : Sim m0 w0 ⟨n, t', h2⟩ a w := by
  obtain ⟨m, q⟩ := hs
  have hown := q.heap.2 _ tk.old
  let m'' : Ghost := fun b => if ownBlk v = some b then w.heap[b]? else m b
  have hle : Gle m m'' := fun b o hb => by
    show (if ownBlk v = some b then w.heap[b]? else m b) = some o
    rw [if_neg (fun hv => by rw [hown.1 b hv] at hb; cases hb)]; exact hb
  have hat : ∀ b, ownBlk v = some b → m'' b = w.heap[b]? := fun b hb => if_pos hb
  have hro := own_ro hown.2 hle hat
  refine ⟨m'', ⟨q.le.trans hle, fun b o hb => ?_, q.frame, fun x hx b hb => ?_, fun b o hb => ?_, q.same, q.defers, q.size, fun i y hy => ?_, ?_, fun x hx => ?_⟩⟩
  · have hb : (if ownBlk v = some b then w.heap[b]? else m b) = some o := hb
    split at hb
    · rename_i hv; exact .inr (q.own _ tk.old b hv)
    · exact q.grow b o hb
  · obtain ⟨y, g1, g2, _⟩ := hh.mem x hx
    exact q.own y (tk.sub.subset g1) b (g2.trans hb)
  · have hb : (if ownBlk v = some b then w.heap[b]? else m b) = some o := hb
    split at hb
    · exact hb
    · exact q.holds b o hb
  · obtain ⟨x, g1, g2⟩ := ht.get i y hy
    obtain ⟨u, g3, g4⟩ := q.tmps i x g1
    exact ⟨u, g3, g2.rel hle hro u g4⟩
  · show (h2.filterMap OE.blk).Nodup
    rw [hh.blks]; exact (tk.sub.filterMap _).nodup q.heap.1
  · obtain ⟨y, g1, g2, g3⟩ := hh.mem x hx
    have hy := q.heap.2 y (tk.sub.subset g1)
    refine ⟨fun b hb => ?_, ?_⟩
    · show (if ownBlk v = some b then w.heap[b]? else m b) = none
      rw [if_neg (show ¬ ownBlk v = some b from fun hv => tk.nodup q.heap.1 b hv y g1 (g2.trans hb))]
      exact hy.1 b (g2.trans hb)
    · rcases g3 with rfl | ⟨b, c, c', ty, rfl, rfl, g3⟩
      · exact hy.2.mono hle
      · have := hy.2
        simp only [OERel] at this ⊢
        obtain ⟨cs, q1, q2⟩ := this
        have r := g3.rel hle hro (.agg cs) (by simp only [Rel]; exact ⟨_, rfl, q2⟩)
        simp only [Rel] at r
        obtain ⟨cs', e, r⟩ := r
        injection e with e
        exact ⟨cs, q1, by rw [← e] at r; exact r⟩
section
variable {P : Program} {n : Nat} {t t' : List (Nat × AV)} {h h1 h2 : Heap} {v : Value} {k e : Nat} {l : List AV}
theorem W.frz {c : Code} {Q : Exit → St → Prop} (tk : Tk h (.own v k l e) h1) (ht : FrzT v k l t t') (hh : FrzH v k l h1 h2) (q : W P c Q ⟨n, t', h2⟩) : W P c Q ⟨n, t, h⟩ := fun m0 w0 a w hs => q m0 w0 a w (hs.frz tk ht hh)
theorem RL.frz {ops : Array Oper} {rest : List Oper} {K : St → Prop} (tk : Tk h (.own v k l e) h1) (ht : FrzT v k l t t') (hh : FrzH v k l h1 h2) (q : RL P ops rest ⟨n, t', h2⟩ K) : RL P ops rest ⟨n, t, h⟩ K := fun i hi m0 w0 a w hs => q i hi m0 w0 a w (hs.frz tk ht hh)
theorem Step.frz {o : Oper} {K : St → Prop} (tk : Tk h (.own v k l e) h1) (ht : FrzT v k l t t') (hh : FrzH v k l h1 h2) (q : Step P o ⟨n, t', h2⟩ K) : Step P o ⟨n, t, h⟩ K := fun m0 w0 a w hs => q m0 w0 a w (hs.frz tk ht hh)
end
end Go.VM
