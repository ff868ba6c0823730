/- The program, under a short name. -/
import Derived.Test.YtdddebheolmldaaProg
import Derived.Test.YtdddebheolmldaaAbs10
import Derived.KernelRfl
namespace Go.Proofs.YtdddebheolmldaaA
open Go
noncomputable abbrev P : Program := Go.Proofs.Try.prog
theorem follows : P.follows .mixedOrders = true := by kernel_rfl
end Go.Proofs.YtdddebheolmldaaA
