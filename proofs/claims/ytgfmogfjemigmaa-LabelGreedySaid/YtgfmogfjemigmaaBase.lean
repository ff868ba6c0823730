/- The program, under a short name. -/
import Derived.Test.YtgfmogfjemigmaaProg
import Derived.Test.YtgfmogfjemigmaaAbs10
import Derived.KernelRfl
namespace Go.Proofs.YtgfmogfjemigmaaA
open Go
noncomputable abbrev P : Program := Go.Proofs.Try.prog
theorem follows : P.follows .mixedOrders = true := by kernel_rfl
end Go.Proofs.YtgfmogfjemigmaaA
