/- The program, under a short name. -/
import Derived.Test.YtohckiiadkibkaaDoorProg
import Derived.Test.YtohckiiadkibkaaDoorAbs10
import Derived.KernelRfl
namespace Go.Proofs.YtohckiiadkibkaaDoorA
open Go
noncomputable abbrev P : Program := Go.Proofs.Tryd.prog
theorem follows : P.follows .mixedOrders = true := by kernel_rfl
end Go.Proofs.YtohckiiadkibkaaDoorA
