/- A piece of an immutable slice, cut with its capacity. No condition. -/
import Derived.Test.YtkpbbiknhhmfiaaVM28
namespace Go.VM
open Go
set_option linter.unusedVariables false
set_option linter.unusedSimpArgs false
section
variable {P : Program} {t : List (Nat × AV)} {h : Heap} {d : Option Nat} {x x1 x2 x3 : Operand} {ty : TypeId} {pos : String} {af : Array Edge} {gd : Option (Nat × Bool)}
end
end Go.VM
