import Derived.Test.YtmhncankbgjmbaaTy
import Derived.Test.YtmhncankbgjmbaaVM13
namespace Go.Proofs
open Go Go.VM
set_option maxRecDepth 100000
instance : TBool Try.prog 4 := ⟨by kernel_rfl⟩
end Go.Proofs
