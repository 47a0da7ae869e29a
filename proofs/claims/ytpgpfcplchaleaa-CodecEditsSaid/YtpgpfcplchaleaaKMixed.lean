import Derived.Test.YtpgpfcplchaleaaTys
import Derived.Test.YtpgpfcplchaleaaSlkL
namespace Go.Proofs.Ytpgpfcplchaleaa
open Slk
theorem mixed : Try.prog.follows .mixedOrders = true := by kernel_rfl
end Go.Proofs.Ytpgpfcplchaleaa
