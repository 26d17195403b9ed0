import Derived.Test.YtkpbbiknhhmfiaaTy
import Derived.Test.YtkpbbiknhhmfiaaU3
namespace Go.Proofs
open Go Go.VM
set_option maxRecDepth 100000
end Go.Proofs

namespace Go.Proofs
open Go Go.VM
set_option maxRecDepth 100000
instance : TMap Try.prog 25 43 36 .u32 := ⟨by kernel_rfl, by kernel_rfl⟩
instance : TMap Try.prog 26 43 43 .u32 := ⟨by kernel_rfl, by kernel_rfl⟩
instance : TMap Try.prog 29 43 74 .u32 := ⟨by kernel_rfl, by kernel_rfl⟩
instance : TMap Try.prog 32 3 36 .i64 := ⟨by kernel_rfl, by kernel_rfl⟩
end Go.Proofs
