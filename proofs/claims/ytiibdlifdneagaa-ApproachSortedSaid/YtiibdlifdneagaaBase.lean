/- The program, under a short name. -/
import Derived.Test.YtiibdlifdneagaaProg
import Derived.Test.YtiibdlifdneagaaAbs10
import Derived.KernelRfl
namespace Go.Proofs.YtiibdlifdneagaaA
open Go
noncomputable abbrev P : Program := Go.Proofs.Try.prog
theorem follows : P.follows .mixedOrders = true := by kernel_rfl
end Go.Proofs.YtiibdlifdneagaaA
