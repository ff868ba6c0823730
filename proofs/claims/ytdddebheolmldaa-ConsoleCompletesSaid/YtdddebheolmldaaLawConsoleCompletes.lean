/- ConsoleCompletes: for every text the law is true. No condition. -/
import Derived.Test.YtdddebheolmldaaRows
import Derived.Test.YtdddebheolmldaaAbs9
import Derived.Test.YtdddebheolmldaaWalkA
import Derived.ProofKit
set_option linter.unusedVariables false
set_option linter.unusedSimpArgs false
namespace Go.Proofs.YtdddebheolmldaaA.LConsoleCompletes
open Go
theorem shp9 : shape P 8 9 = some (.str) := by kernel_rfl
theorem contract : ∀ ls, Tys [(.str)] ls → AC P 3 (argsOf [(.str)] ls) [] (fun r _ => r = .d (.bool true)) := by
  intro ls h
  obtain ⟨l1, _, rfl, ⟨s, rfl, _⟩, rfl⟩ := h
  exact completes_c s []
theorem own : ownKnob Go.Proofs.Try.prog.godebug = none := by kernel_rfl
set_option maxRecDepth 100000 in
theorem lifted (os : Os) (started : os.Started) (H : Type) (enc : TypeId × Value → H) :
    ReturnsInHanded {} Go.Proofs.Try.checked os 3 .any (Go.Proofs.Ytdddebheolmldaa.Rows.consoleCompletesSpec.pre6 enc Go.Proofs.Try.prog Go.Proofs.Try.f3 Go.Proofs.Ytdddebheolmldaa.Rows.consoleCompletesRow.domain false) (Go.Proofs.Ytdddebheolmldaa.Rows.consoleCompletesSpec.post enc Go.Proofs.Try.prog Go.Proofs.Try.f3 false true false false) :=
  law (C := Go.Proofs.Try.checked) 8 [(.str)] own started (by kernel_rfl) Go.Proofs.Try.func3
    (ChangeSpec.witness6 (enc := enc) (C := Go.Proofs.Try.checked) false ⟨#[], #[.string ByteArray.empty], []⟩ 8 (by kernel_rfl) (by kernel_rfl) (by kernel_rfl) (by kernel_rfl))
    (by kernel_rfl) (by kernel_rfl) 4 Go.Proofs.Try.underlying4 (by kernel_rfl) rfl (by kernel_rfl)
    (fun ds h => match ds, h with | [d0], _ => rfl) contract
theorem over : Go.Proofs.Ytdddebheolmldaa.Rows.consoleCompletesRow.holds Go.Proofs.Ytdddebheolmldaa.Try.pinned (OpenSpec.ofChange Go.Proofs.Ytdddebheolmldaa.Rows.consoleCompletesSpec) :=
  OpenClaim.holds_of_wide 3 Go.Proofs.Try.f3 rfl rfl rfl rfl rfl rfl rfl ⟨rfl, rfl, rfl, rfl, rfl⟩ rfl rfl rfl rfl rfl (by kernel_rfl) Go.Proofs.Try.func3 (by kernel_rfl)
    (of_decide_eq_true (by kernel_rfl)) (by unfold Func.isWrapper; first | (rw [if_pos (by decide +kernel)]; kernel_rfl) | (rw [if_neg (by decide +kernel)]; exact ⟨rfl, rfl⟩))
    (fun os started H enc _ => lifted os started H enc)
end Go.Proofs.YtdddebheolmldaaA.LConsoleCompletes
namespace Go.Proofs.Ytdddebheolmldaa
/-- The statement, under a short name, for the claim. -/
theorem consoleCompletes_holds : Rows.ConsoleCompletesSaid := Go.Proofs.YtdddebheolmldaaA.LConsoleCompletes.over
end Go.Proofs.Ytdddebheolmldaa
#print axioms Go.Proofs.Ytdddebheolmldaa.consoleCompletes_holds
