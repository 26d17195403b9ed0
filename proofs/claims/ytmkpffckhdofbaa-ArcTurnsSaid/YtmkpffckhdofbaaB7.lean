/- Whether rows have the same spans. No condition. -/
import Derived.Test.YtmkpffckhdofbaaB6
namespace Go.Proofs.Ytmkpffckhdofbaa
open Go Go.VM
attribute [local irreducible] PurV Pur Step RL W D ACalls Then InBlock Fini
set_option linter.unusedVariables false
set_option linter.unusedSimpArgs false
set_option maxHeartbeats 20000000
def alikeP (a b : List RC) : Prop := a.map (fun r => (r.x, r.w)) = b.map (fun r => (r.x, r.w))
instance (a b : List RC) : Decidable (alikeP a b) := inferInstanceAs (Decidable (_ = _))
end Go.Proofs.Ytmkpffckhdofbaa
