/- A slice of some elements, built and never changed. No condition. -/
import Derived.Test.YtmfbfbhkjclhkaaN10
import Derived.Test.YtmfbfbhkjclhkaaU3
namespace Go.VM
open Go
set_option linter.unusedVariables false
set_option linter.unusedSimpArgs false
section
variable {ro : Option Nat} {P : Program} {n : Nat} {t : List (Nat × AV)} {h : Heap} {K : St → Prop} {x : Operand} {d : Nat} {ty : Nat} {pos : String} {af : Array Edge} {gd : Option (Nat × Bool)}
theorem S.buildr {bt m e k bs : Nat} {g : Bool} {ps : Array (Nat × Operand)} {xs : List Operand} {vs : List AV} [he : TElem P bt e k bs g] (hK : K ⟨n, (d, .ro k vs) :: t, h⟩) (hps : ps.toList = (xs.zipIdx).map fun p => (p.2, p.1)) (hm : xs.length = m) (hx : Evals t xs vs)
    (hk : ∀ v ∈ vs, v.cells.length = k) (h1 : Ones h (vs.flatMap AV.cells)) (hbig : m * k ≤ 16777216) (hn : Nat.blt d n = true) : Step P ⟨some d, .buildSlice bt m ps, ty, pos, af, gd⟩ ⟨n, t, h⟩ K := by
  have := S.buildSlice (P := P) (ty := ty) (pos := pos) (af := af) (gd := gd) (K := fun s' => ∃ v, s' = ⟨n, (d, .val v) :: t, .own v k vs e :: h⟩) (bt := bt) hps hm hx hk h1 hbig hn (fun v => ⟨v, rfl⟩)
  intro m0 w0 a w hs Q
  refine Oper.wp_mono (fun a' w' ⟨s', ⟨v, e⟩, hs'⟩ => ⟨_, hK, ?_⟩) (this m0 w0 a w hs Q)
  subst e
  exact hs'.frz .here (.cons .hit (.rest _)) (.rest _)
variable {ops : Array Oper} {hro : Heap} {todo : List Nat} {i : Nat}
end
end Go.VM
