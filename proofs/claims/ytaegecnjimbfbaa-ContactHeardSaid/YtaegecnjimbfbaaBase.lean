/- The program, under a short name. -/
import Derived.Test.YtaegecnjimbfbaaProg
import Derived.Test.YtaegecnjimbfbaaAbs10
import Derived.KernelRfl
namespace Go.Proofs.YtaegecnjimbfbaaA
open Go
noncomputable abbrev P : Program := Go.Proofs.Try.prog
theorem follows : P.follows .mixedOrders = true := by kernel_rfl
end Go.Proofs.YtaegecnjimbfbaaA
