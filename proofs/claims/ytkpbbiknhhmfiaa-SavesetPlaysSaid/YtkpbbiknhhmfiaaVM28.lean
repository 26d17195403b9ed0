/- A call of yield in a region that draws its order. No condition. -/
import Derived.Test.YtkpbbiknhhmfiaaU4
namespace Go.VM
open Go
set_option linter.unusedVariables false
set_option linter.unusedSimpArgs false
section
variable {ro : Option Nat} {P : Program} {ops : Array Oper} {K : St → Prop} {n : Nat} {hro : Heap} {todo todo' : List Nat} {t : List (Nat × AV)} {h : Heap} {oi : Oper} {i d : Nat} {v : AV}
end
end Go.VM
namespace Go.VM
open Go
section
variable {P : Program} {tm : List (Nat × AV)} {h : Heap} {d : Option Nat} {x y : Operand} {ty : TypeId} {pos : String} {af : Array Edge} {gd : Option (Nat × Bool)}
end
end Go.VM
