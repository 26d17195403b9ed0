import Derived.Test.YtmkpffckhdofbaaTy
import Derived.Test.YtmkpffckhdofbaaU3
namespace Go.Proofs
open Go Go.VM
set_option maxRecDepth 100000
instance : TBool Try.prog 4 := ⟨by kernel_rfl⟩
end Go.Proofs
