/- The program, under a short name. -/
import Derived.Test.YtjmadiegikbjpaaProg
import Derived.Test.YtjmadiegikbjpaaAbs10
import Derived.KernelRfl
namespace Go.Proofs.YtjmadiegikbjpaaA
open Go
noncomputable abbrev P : Program := Go.Proofs.Try.prog
theorem follows : P.follows .mixedOrders = true := by kernel_rfl
end Go.Proofs.YtjmadiegikbjpaaA
