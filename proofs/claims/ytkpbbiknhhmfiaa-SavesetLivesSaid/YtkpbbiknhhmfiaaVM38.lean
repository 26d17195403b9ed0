/- Arrays made of parts. No condition. -/
import Derived.Test.YtkpbbiknhhmfiaaVM37
namespace Go.VM
open Go
set_option linter.unusedVariables false
set_option linter.unusedSimpArgs false
theorem fill_congr {f g : Nat → Option (Nat × Nat)} (hfg : ∀ i x, f i = some x → g i = some x) : ∀ (vs : List (Nat × Value)) (cs cs' : Array Value), Instr.fill f cs vs = some cs' → Instr.fill g cs vs = some cs'
  | [], cs, cs', h => by simpa [Instr.fill] using h
  | (i, u) :: vs, cs, cs', h => by
    simp only [Instr.fill] at h ⊢
    cases hf : f i with
    | none => rw [hf] at h; cases h
    | some p =>
      rw [hf] at h
      rw [hfg i p hf]
      dsimp only at h ⊢
      split at h
      · cases h
      · rename_i hc
        rw [if_neg hc]
        exact fill_congr hfg vs _ cs' h
section
variable {P : Program} {d : Option Nat} {ty : Nat} {pos : String} {af : Array Edge} {gd : Option (Nat × Bool)} {tm : List (Nat × AV)} {h : Heap}
theorem pur_buildarr {bt nn e : Nat} {g : Bool} {z z' : List AV} {ps : Array (Nat × Operand)} {vs : List (Nat × AV)} [hz : TZero P bt z] [ha : TArr P bt nn e 1 g] (hx : EvalP tm ps.toList vs) (hf : fillA ((List.range nn).map fun i => (i, 1)) z vs = some z') : PurV P ⟨d, .build bt ps, ty, pos, af, gd⟩ tm h (.agg z') := by
  intro m a w0 ht g1 g2
  obtain ⟨i, v, hi, hv, rfl, hsz, hone⟩ := zeroQ_spec hz.h
  obtain ⟨h1, h2⟩ := hx.spec ht
  obtain ⟨cs', h3, h4⟩ := fill_rel vs (ps.toList.map fun (i, x) => (i, a.eval x)) _ z' v.cells (relL_vals m _ hone) h1 h2 hf
  refine ⟨.agg cs', by simp only [Rel]; exact ⟨_, rfl, h4⟩, fun w => ?_⟩
  obtain ⟨_, ⟨ie, hie, hs⟩, _⟩ := valQ_spec ha.v
  have h5 := fill_congr (g := fun i => some (i * ie.size, ie.size)) (fun i x hx => by
    rw [hs, Nat.mul_one]
    rw [List.getElem?_map] at hx
    cases hr : (List.range nn)[i]? with
    | none => rw [hr] at hx; cases hx
    | some j =>
      rw [hr] at hx
      obtain ⟨hj, e⟩ := List.getElem?_eq_some_iff.1 hr
      rw [List.getElem_range] at e
      subst e
      exact hx) _ _ _ h3
  have hb : P.built bt (ps.map fun (i, x) => (i, a.eval x)).toList = some cs' := by
    simp only [Program.built, hi, ha.h, hv, hie]
    simpa using h5
  simp [execOp, run_build w bt _ cs' hb]
end
end Go.VM
