import Derived.Test.YtnnhopjnpplfcaaTys
import Derived.Test.YtnnhopjnpplfcaaSlkL
namespace Go.Proofs.Ytnnhopjnpplfcaa
open Slk
theorem mixed : Try.prog.follows .mixedOrders = true := by kernel_rfl
end Go.Proofs.Ytnnhopjnpplfcaa
