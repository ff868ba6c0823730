/- Searching in strings. -/
import Derived.Test.YtaegeaajhbfkgaaGreatDoorFrB
import Derived.Test.YtaegeaajhbfkgaaGreatDoorStr
import Derived.Test.YtaegeaajhbfkgaaGreatDoorFrC
import Derived.Test.YtaegeaajhbfkgaaGreatDoorFrD
set_option linter.unusedVariables false
set_option linter.unusedSimpArgs false
set_option linter.unnecessarySimpa false
namespace Go.Proofs.YtaegeaajhbfkgaaGreatDoorA.FStrA
open Go
end Go.Proofs.YtaegeaajhbfkgaaGreatDoorA.FStrA
namespace Go.Proofs.YtaegeaajhbfkgaaGreatDoorA
open Go FStrA
attribute [local irreducible] XOps Quiet Loud W AC GQ DT
end Go.Proofs.YtaegeaajhbfkgaaGreatDoorA

