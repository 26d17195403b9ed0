/- A call that is lent an owned slice: what it does with the slice as with one that cannot change, it does with an owned one too, when a plain value comes back. No condition. -/
import Derived.Test.YtkpbbiknhhmfiaaVM30
import Derived.Test.YtkpbbiknhhmfiaaU3
namespace Go.VM
open Go
set_option linter.unusedVariables false
set_option linter.unusedSimpArgs false
end Go.VM
