/- Strings compared; bytes divided. No condition. -/
import Derived.Test.YtkpbbiknhhmfiaaVM29
import Derived.Laws.Strings
namespace Go.VM
open Go
set_option linter.unusedVariables false
set_option linter.unusedSimpArgs false
section
variable {P : Program} {tm : List (Nat × AV)} {h : Heap} {d : Option Nat} {x y : Operand} {xt yt ty : Nat} {pos : String} {af : Array Edge} {gd : Option (Nat × Bool)}
end
end Go.VM
