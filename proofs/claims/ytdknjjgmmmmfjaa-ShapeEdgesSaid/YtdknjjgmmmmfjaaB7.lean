import Derived.Test.YtdknjjgmmmmfjaaB4
import Derived.Test.YtdknjjgmmmmfjaaSR
/- A number put into a list that rises. No condition. -/
namespace Go.Proofs.Ytdknjjgmmmmfjaa
open Go Go.VM
attribute [local irreducible] PurV Pur Step RL W D ACalls Then InBlock Fini
set_option linter.unusedVariables false
set_option linter.unusedSimpArgs false
set_option maxHeartbeats 20000000
abbrev Up_ (l : List Int) : Prop := l.Pairwise (· < ·)
end Go.Proofs.Ytdknjjgmmmmfjaa

/- The reference's Edges. No condition. -/
namespace Go.Proofs.Ytdknjjgmmmmfjaa
open Go Go.VM
attribute [local irreducible] PurV Pur Step RL W D ACalls Then InBlock Fini
set_option linter.unusedVariables false
set_option linter.unusedSimpArgs false
set_option maxHeartbeats 20000000
end Go.Proofs.Ytdknjjgmmmmfjaa

/- Whether rows have the same spans. No condition. -/
namespace Go.Proofs.Ytdknjjgmmmmfjaa
open Go Go.VM
attribute [local irreducible] PurV Pur Step RL W D ACalls Then InBlock Fini
set_option linter.unusedVariables false
set_option linter.unusedSimpArgs false
set_option maxHeartbeats 20000000
end Go.Proofs.Ytdknjjgmmmmfjaa
