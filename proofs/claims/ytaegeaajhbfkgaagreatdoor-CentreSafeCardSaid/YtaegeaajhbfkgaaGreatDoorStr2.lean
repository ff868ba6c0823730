/- Lists filled from the front; digits; bytes laid from the back of a row. -/
import Derived.Test.YtaegeaajhbfkgaaGreatDoorStr
import Derived.Test.YtaegeaajhbfkgaaGreatDoorFrC
namespace Go.Proofs.YtaegeaajhbfkgaaGreatDoorA
open Go
set_option linter.unusedVariables false
set_option linter.unusedSimpArgs false
set_option linter.unnecessarySimpa false
end Go.Proofs.YtaegeaajhbfkgaaGreatDoorA

