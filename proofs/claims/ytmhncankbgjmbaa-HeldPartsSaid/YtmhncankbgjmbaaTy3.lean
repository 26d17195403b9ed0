import Derived.Test.YtmhncankbgjmbaaTy2
import Derived.Test.YtmhncankbgjmbaaVM20
namespace Go.Proofs
open Go Go.VM
set_option maxRecDepth 100000
instance : TMap Try.prog 22 29 3 .u32 := ⟨by kernel_rfl, by kernel_rfl⟩
instance : TMap Try.prog 44 29 4 .u32 := ⟨by kernel_rfl, by kernel_rfl⟩
end Go.Proofs
