/- What comes behind a region is kept out of its goals. No condition. -/
import Derived.Test.YtmhncankbgjmbaaVM20
namespace Go.VM
open Go
set_option linter.unusedVariables false
section
variable {P : Program} {ops : Array Oper} {Q : Exit → St → Prop} {s : St} {n : Nat} {t : List (Nat × AV)} {todo : List Nat} {id : Nat}
theorem W.rsk {c : Code} (k : ∀ K : St → Prop, (∀ s', W P c Q s' → K s') → RL P ops ops.toList s K) : W P (.seq (.region id ops false) c) Q s := W.rs (k _ fun _ h => h)
theorem W.regionk (k : ∀ K : St → Prop, (∀ s', Q .normal s' → K s') → RL P ops ops.toList s K) : W P (.region id ops false) Q s := W.region (k _ fun _ h => h)
theorem W.drk {hp hro rest : Heap} [hm : TMix P] (sel : Sel hp hro rest) (k : ∀ K : St → Prop, (∀ s', Q .normal s' → K s') → R2 P ops K n hro todo t rest) (ht : List.range ops.size = todo := by simp only [List.size_toArray, List.length_cons, List.length_nil, Nat.reduceAdd, List.range, List.range.loop]; rfl) (hok : okR ops = true := by decide +kernel) : W P (.region id ops true) Q ⟨n, t, hp⟩ :=
  W.dr sel (k _ fun _ h => h) ht hok
end
end Go.VM
