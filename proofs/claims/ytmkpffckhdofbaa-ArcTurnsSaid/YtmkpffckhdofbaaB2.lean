
/- The reference's Counts, In, Has, Area. No condition. -/
import Derived.Test.YtmkpffckhdofbaaB1
import Derived.Test.YtmkpffckhdofbaaU4
namespace Go.Proofs.Ytmkpffckhdofbaa
open Go Go.VM
attribute [local irreducible] PurV Pur Step RL W D ACalls Then InBlock Fini
set_option linter.unusedVariables false
set_option linter.unusedSimpArgs false
set_option maxHeartbeats 20000000
def hasF (l : List RC) (x y : Int) : Bool := l.any fun r => decide r.cnt && decide (r.has x y)
end Go.Proofs.Ytmkpffckhdofbaa
