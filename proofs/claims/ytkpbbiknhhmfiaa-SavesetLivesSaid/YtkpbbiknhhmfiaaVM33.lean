/- A slice of some elements, built and never changed. No condition. -/
import Derived.Test.YtkpbbiknhhmfiaaVM30
import Derived.Test.YtkpbbiknhhmfiaaU3
namespace Go.VM
open Go
set_option linter.unusedVariables false
set_option linter.unusedSimpArgs false
section
variable {ro : Option Nat} {P : Program} {n : Nat} {t : List (Nat × AV)} {h : Heap} {K : St → Prop} {x : Operand} {d : Nat} {ty : Nat} {pos : String} {af : Array Edge} {gd : Option (Nat × Bool)}
variable {ops : Array Oper} {hro : Heap} {todo : List Nat} {i : Nat}
end
end Go.VM
