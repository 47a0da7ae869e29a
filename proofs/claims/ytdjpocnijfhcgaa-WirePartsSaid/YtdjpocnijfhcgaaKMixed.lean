import Derived.Test.YtdjpocnijfhcgaaTys
import Derived.Test.YtdjpocnijfhcgaaSlkL
namespace Go.Proofs.Ytdjpocnijfhcgaa
open Slk
theorem mixed : Try.prog.follows .mixedOrders = true := by kernel_rfl
end Go.Proofs.Ytdjpocnijfhcgaa
