/- The program, under a short name. -/
import Derived.Test.YtijgdgkfimnkbaaProg
import Derived.Test.YtijgdgkfimnkbaaAbs10
import Derived.KernelRfl
namespace Go.Proofs.YtijgdgkfimnkbaaA
open Go
noncomputable abbrev P : Program := Go.Proofs.Try.prog
theorem follows : P.follows .mixedOrders = true := by kernel_rfl
end Go.Proofs.YtijgdgkfimnkbaaA
