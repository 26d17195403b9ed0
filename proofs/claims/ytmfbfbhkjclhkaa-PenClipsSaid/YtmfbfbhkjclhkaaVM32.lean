/- A call that is lent an owned slice: what it does with the slice as with one that cannot change, it does with an owned one too, when a plain value comes back. No condition. -/
import Derived.Test.YtmfbfbhkjclhkaaN10
import Derived.Test.YtmfbfbhkjclhkaaU3
namespace Go.VM
open Go
set_option linter.unusedVariables false
set_option linter.unusedSimpArgs false
theorem ACalls.lent {P : Program} {f : FuncId} {args args' : List AV} {h : Heap} {v u : Value} {k e : Nat} {l : List AV} (hb : OE.own v k l e ∈ h) (ha : Frz v k l (.tup args') (.tup args))
    (hc : ACalls P f args [] (fun r h' => r = .val u ∧ h' = [])) : ACalls P f args' h (fun r h' => r = .val u ∧ h' = h) := by
  intro m w vs h1 h2 h3
  have hown := h3.2 _ hb
  let m'' : Ghost := fun b => if ownBlk v = some b then w.heap[b]? else m b
  have hle : Gle m m'' := fun b o hb => by
    show (if ownBlk v = some b then w.heap[b]? else m b) = some o
    rw [if_neg (fun hv => by rw [hown.1 b hv] at hb; cases hb)]; exact hb
  have hat : ∀ b, ownBlk v = some b → m'' b = w.heap[b]? := fun b hb => if_pos hb
  have hro := own_ro hown.2 hle hat
  have hh : Holds m'' w := fun b o hb => by
    have hb : (if ownBlk v = some b then w.heap[b]? else m b) = some o := hb
    split at hb
    · exact hb
    · exact h1 b o hb
  have hargs : RelL m'' args vs := by
    have := ha.rel hle hro (.tuple vs.toArray) (by simp only [Rel]; exact ⟨_, rfl, by simpa using h2⟩)
    simp only [Rel] at this
    obtain ⟨cs, e, q⟩ := this
    injection e with e
    rw [← e] at q
    simpa using q
  refine (hc m'' w vs hh hargs ⟨by simp, by simp⟩).mono ?_
  rintro en w' ⟨m', u', r, h', rfl, g1, g2, g3, g4, g5, g6, rfl, rfl⟩
  have fr : ∀ b, b < w.heap.size → w'.heap[b]? = w.heap[b]? := fun b hb => g6.frame b hb (by simp)
  refine ⟨m, u', .val u, h, rfl, Gle.refl m, fun b o hb => ?_, g3, by simpa only [Rel] using g4, ⟨h3.1, fun x hx => ⟨(h3.2 x hx).1, (h3.2 x hx).2.local fun b hb => fr b (h3.lt hx hb)⟩⟩, ⟨fun b o hb => .inl hb, fun b hb _ => fr b hb, fun x hx b hb => .inl ⟨x, hx, hb⟩⟩, rfl, rfl⟩
  rw [fr b (h1.lt hb)]
  exact h1 b o hb
end Go.VM
