/- A box that is not written any more: its address reads as a place in what cannot change; an array there, cut whole. No condition. -/
import Derived.Test.YtmfbfbhkjclhkaaN10
import Derived.Test.YtmfbfbhkjclhkaaU3
namespace Go.VM
open Go
set_option linter.unusedVariables false
set_option linter.unusedSimpArgs false
inductive FbT (b : Nat) (c : List AV) : List (Nat × AV) → List (Nat × AV) → Prop
  | rest (t : List (Nat × AV)) : FbT b c t t
  | keep (x : Nat × AV) {t t' : List (Nat × AV)} (r : FbT b c t t') : FbT b c (x :: t) (x :: t')
  | hit {i : Nat} {t t' : List (Nat × AV)} (r : FbT b c t t') : FbT b c ((i, .val (.pointer (some ⟨b, 0, none⟩))) :: t) ((i, .rp c.length [.agg c] 0 0) :: t')
theorem FbT.get {b : Nat} {c : List AV} {t t' : List (Nat × AV)} (h : FbT b c t t') : ∀ i y, VM.get t' i = some y → VM.get t i = some y ∨ (VM.get t i = some (.val (.pointer (some ⟨b, 0, none⟩))) ∧ y = .rp c.length [.agg c] 0 0) := by
  induction h with
  | rest t => exact fun i y h => .inl h
  | keep x r ih =>
    obtain ⟨j, x⟩ := x
    intro i z hz
    rw [get_eq] at hz ⊢
    by_cases hj : j = i
    · rw [if_pos hj] at hz ⊢; exact .inl hz
    · rw [if_neg hj] at hz ⊢; exact ih i z hz
  | @hit j t t' r ih =>
    intro i z hz
    rw [get_eq] at hz ⊢
    by_cases hj : j = i
    · rw [if_pos hj] at hz ⊢
      injection hz with hz; exact .inr ⟨rfl, hz.symm⟩
    · rw [if_neg hj] at hz ⊢; exact ih i z hz
theorem relL_ones {m : Ghost} : ∀ {xs : List AV} {cs : List Value}, RelL m xs cs → (∀ x ∈ xs, x.one = true) → ∀ y ∈ cs, y.oneCell' = true
  | [], cs, h, _ => by simp only [RelL] at h; subst h; simp
  | x :: xs, cs, h, h1 => by
    simp only [RelL] at h
    obtain ⟨c, r, rfl, h2, h3⟩ := h
    intro y hy
    rcases List.mem_cons.1 hy with rfl | hy
    · exact h2.one (h1 x (.head _))
    · exact relL_ones h3 (fun z hz => h1 z (.tail _ hz)) y hy
theorem relE_ones {m : Ghost} : ∀ {xs : List AV} {cs : List Value}, RelL m xs cs → (∀ y ∈ cs, y.oneCell' = true) → RelE m 1 xs cs
  | [], cs, h, _ => by simpa only [RelL, RelE] using h
  | x :: xs, cs, h, h1 => by
    simp only [RelL] at h
    obtain ⟨c, r, rfl, h2, h3⟩ := h
    have hc := cells_one (h1 c (.head _))
    simp only [RelE]
    exact ⟨c, r, by rw [hc]; rfl, by rw [hc]; rfl, h2, relE_ones h3 fun y hy => h1 y (.tail _ hy)⟩
theorem Sim.frzb {m0 : GF} {w0 : World} {n : Nat} {t t' : List (Nat × AV)} {h h1 : Heap} {a : Act} {w : World} {b ty : Nat} {c : List AV} (hs : Sim m0 w0 ⟨n, t, h⟩ a w)
    (tk : Tk h (.box b c ty) h1) (h1c : ∀ x ∈ c, x.one = true) (ht : FbT b c t t') : Sim m0 w0 ⟨n, t', h1⟩ a w := by
  obtain ⟨m, q⟩ := hs
  have hown := q.heap.2 _ tk.old
  have hmb : m b = none := hown.1 b rfl
  let m'' : Ghost := fun g => if g = b then w.heap[g]? else m g
  have hle : Gle m m'' := fun g o hb => by
    show (if g = b then w.heap[g]? else m g) = some o
    rw [if_neg (fun hv => by rw [hv, hmb] at hb; cases hb)]; exact hb
  have hat : m'' b = w.heap[b]? := if_pos rfl
  have hro : Rel m'' (.rp c.length [.agg c] 0 0) (.pointer (some ⟨b, 0, none⟩)) := by
    have := hown.2
    simp only [OERel] at this
    obtain ⟨cs, q1, q2⟩ := this
    have hl : cs.toList.length = c.length := q2.length
    have hl2 : cs.size = c.length := by simpa using hl
    have e0 : (cs.toList.drop 0).take (([AV.agg c] : List AV).length * c.length) = cs.toList := by
      rw [List.drop_zero, List.length_singleton, Nat.one_mul, ← hl, List.take_length]
    simp only [Rel]
    refine ⟨b, 0, by simp, by simp, b, 0, cs, ty, (0, 0), rfl, hat.trans q1, by simp [hl2], ?_, ?_⟩
    · rw [e0]
      simp only [RelE]
      exact ⟨.agg cs, [], by simp [Value.cells], by simpa [Value.cells] using hl2, ⟨cs, rfl, q2.mono hle⟩, rfl⟩
    · rw [e0]; exact relL_ones q2 h1c
  refine ⟨m'', ⟨q.le.trans hle, fun g o hb => ?_, q.frame, fun x hx g hb => ?_, fun g o hb => ?_, q.same, q.defers.mono hle, q.size, fun i y hy => ?_, ?_, fun x hx => ?_⟩⟩
  · have hb : (if g = b then w.heap[g]? else m g) = some o := hb
    split at hb
    · rename_i hv; exact .inr (q.own _ tk.old g (by rw [hv]; rfl))
    · exact q.grow g o hb
  · exact q.own x (tk.sub.subset hx) g hb
  · have hb : (if g = b then w.heap[g]? else m g) = some o := hb
    split at hb
    · exact hb
    · exact q.holds g o hb
  · rcases ht.get i y hy with g1 | ⟨g1, rfl⟩
    · obtain ⟨u, g3, g4⟩ := q.tmps i _ g1
      exact ⟨u, g3, g4.mono hle⟩
    · obtain ⟨u, g3, g4⟩ := q.tmps i _ g1
      simp only [Rel] at g4
      exact ⟨u, g3, by rw [g4.1]; exact hro⟩
  · exact (tk.sub.filterMap _).nodup q.heap.1
  · have hy := q.heap.2 x (tk.sub.subset hx)
    refine ⟨fun g hb => ?_, hy.2.mono hle⟩
    show (if g = b then w.heap[g]? else m g) = none
    rw [if_neg (show ¬ g = b from fun hv => tk.nodup q.heap.1 b rfl x hx (by rw [← hv]; exact hb))]
    exact hy.1 g hb
section
variable {ro : Option Nat} {P : Program} {n : Nat} {t t' : List (Nat × AV)} {h h1 : Heap} {b ty : Nat} {c : List AV} {K : St → Prop}
theorem Step.frzb {o : Oper} (tk : Tk h (.box b c ty) h1) (h1c : ∀ x ∈ c, x.one = true) (ht : FbT b c t t') (q : Step P o ⟨n, t', h1⟩ K) : Step P o ⟨n, t, h⟩ K := fun m0 w0 a w hs => q m0 w0 a w (hs.frzb tk h1c ht)
end
section
variable {P : Program} {tm : List (Nat × AV)} {h : Heap} {d : Option Nat} {x : Operand} {ty : TypeId} {pos : String} {af : Array Edge} {gd : Option (Nat × Bool)}
/-- a[:] of an array that cannot change. -/
theorem pur_slice_arr_rp {xt nn e : Nat} {g : Bool} {c : List AV} [ha : TArr P xt nn e 1 g] (hx : evalA tm x = some (.rp nn [.agg c] 0 0)) (hcl : c.length = nn) (h0 : 0 < nn) (hm : nn ≤ maxLen) :
    PurV P ⟨d, .slice xt x none none none, ty, pos, af, gd⟩ tm h (.ro 1 c) := fun m a w0 ht g1 g2 => by
  have hx := ht.eval hx
  simp only [Rel] at hx
  obtain ⟨b, o, hx, _, b', o', cs, e', fr, e1, w2, w3, w4, w5⟩ := hx
  injection e1 with e1
  injection e1 with e1 e2
  subst e1; subst e2
  rw [List.length_singleton, Nat.one_mul] at w3 w4 w5
  refine ⟨.slice (some ⟨b, o, none⟩) nn nn, ?_, fun w => ?_⟩
  · simp only [Rel]
    rw [hcl]
    refine ⟨_, _, rfl, Nat.le_refl _, hm, fun hA => (by cases hA), fun _ => ⟨b, o, cs, e', fr, rfl, w2, by omega, ?_, ?_⟩⟩
    · rw [Nat.mul_one]
      simp only [RelE] at w4
      obtain ⟨v, r, q1, q2, ⟨cs', rfl, q3⟩, rfl⟩ := w4
      rw [List.append_nil] at q1
      rw [q1]
      rw [q1] at w5
      exact relE_ones q3 w5
    · rw [Nat.mul_one]; exact w5
  · have c1 : nn ≠ 0 := by omega
    simp [execOp, hx, Instr.sliceAt, Instr.sliceBounds, run_underlying ha.h, Instr.sureAddr, run_sizeOf ha.v, add_mk', c1]
end
end Go.VM
