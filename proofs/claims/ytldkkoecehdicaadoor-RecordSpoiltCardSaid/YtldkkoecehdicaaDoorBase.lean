/- The program, under a short name. -/
import Derived.Test.YtldkkoecehdicaaDoorProg
import Derived.Test.YtldkkoecehdicaaDoorAbs10
import Derived.KernelRfl
namespace Go.Proofs.YtldkkoecehdicaaDoorA
open Go
noncomputable abbrev P : Program := Go.Proofs.Tryd.prog
theorem follows : P.follows .mixedOrders = true := by kernel_rfl
end Go.Proofs.YtldkkoecehdicaaDoorA
