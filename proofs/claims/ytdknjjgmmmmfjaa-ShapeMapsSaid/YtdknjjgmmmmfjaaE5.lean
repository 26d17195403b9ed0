/- shape: Flip. No condition. -/
import Derived.Test.YtdknjjgmmmmfjaaW2
namespace Go.Proofs.Ytdknjjgmmmmfjaa
open Go Go.VM
attribute [local irreducible] PurV Pur Step RL W D ACalls Then InBlock Fini
set_option linter.unusedVariables false
set_option linter.unusedSimpArgs false
set_option maxHeartbeats 20000000
end Go.Proofs.Ytdknjjgmmmmfjaa
