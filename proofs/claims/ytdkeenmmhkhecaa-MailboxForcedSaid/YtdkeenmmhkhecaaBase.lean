/- The program, under a short name. -/
import Derived.Test.YtdkeenmmhkhecaaProg
import Derived.Test.YtdkeenmmhkhecaaAbs10
import Derived.KernelRfl
namespace Go.Proofs.YtdkeenmmhkhecaaA
open Go
noncomputable abbrev P : Program := Go.Proofs.Try.prog
theorem follows : P.follows .mixedOrders = true := by kernel_rfl
end Go.Proofs.YtdkeenmmhkhecaaA
