/- The program, under a short name. -/
import Derived.Test.YtpdeopgmgeaglaaProg
import Derived.Test.YtpdeopgmgeaglaaAbs10
import Derived.KernelRfl
namespace Go.Proofs.YtpdeopgmgeaglaaA
open Go
noncomputable abbrev P : Program := Go.Proofs.Try.prog
theorem follows : P.follows .mixedOrders = true := by kernel_rfl
end Go.Proofs.YtpdeopgmgeaglaaA
