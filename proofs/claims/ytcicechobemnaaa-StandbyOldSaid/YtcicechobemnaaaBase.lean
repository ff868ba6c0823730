/- The program, under a short name. -/
import Derived.Test.YtcicechobemnaaaProg
import Derived.Test.YtcicechobemnaaaAbs10
import Derived.KernelRfl
namespace Go.Proofs.YtcicechobemnaaaA
open Go
noncomputable abbrev P : Program := Go.Proofs.Try.prog
theorem follows : P.follows .mixedOrders = true := by kernel_rfl
end Go.Proofs.YtcicechobemnaaaA
