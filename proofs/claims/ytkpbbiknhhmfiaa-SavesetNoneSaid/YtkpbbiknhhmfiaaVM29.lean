/- Strings: of bytes, and one behind the other. No condition. -/
import Derived.Test.YtkpbbiknhhmfiaaVM28
import Derived.Laws.BytesString
namespace Go.VM
open Go
set_option linter.unusedVariables false
set_option linter.unusedSimpArgs false
class TBytes (P : Program) (t e : Nat) : Prop where
  h : P.underlying t = some (.slice e)
  he : P.underlying e = some (.int .u8)
section
variable {P : Program} {tm : List (Nat × AV)} {h : Heap} {d : Option Nat} {x y : Operand} {ty : TypeId} {pos : String} {af : Array Edge} {gd : Option (Nat × Bool)}
end
end Go.VM
