/- HoldWaits: for every three numbers the law is true. No condition. -/
import Derived.Test.YtpdeopgmgeaglaaRows
import Derived.Test.YtpdeopgmgeaglaaAbs9
import Derived.Test.YtpdeopgmgeaglaaWalkD
import Derived.ProofKit
set_option linter.unusedVariables false
set_option linter.unusedSimpArgs false
namespace Go.Proofs.YtpdeopgmgeaglaaA.LHoldWaits
open Go
theorem shp3 : shape P 8 3 = some (.int .i64) := by kernel_rfl
theorem contract : ∀ ls, Tys [(.int .i64), (.int .i64), (.int .i64)] ls → AC P 3 (argsOf [(.int .i64), (.int .i64), (.int .i64)] ls) [] (fun r _ => r = .d (.bool true)) := by
  intro ls h
  obtain ⟨l1, _, rfl, ⟨a, rfl, _⟩, l2, _, rfl, ⟨b, rfl, _⟩, l3, _, rfl, ⟨c, rfl, _⟩, rfl⟩ := h
  exact waits_c a b c []
theorem own : ownKnob Go.Proofs.Try.prog.godebug = none := by kernel_rfl
set_option maxRecDepth 100000 in
theorem lifted (os : Os) (started : os.Started) (H : Type) (enc : TypeId × Value → H) :
    ReturnsInHanded {} Go.Proofs.Try.checked os 3 .any (Go.Proofs.Ytpdeopgmgeaglaa.Rows.holdWaitsSpec.pre6 enc Go.Proofs.Try.prog Go.Proofs.Try.f3 Go.Proofs.Ytpdeopgmgeaglaa.Rows.holdWaitsRow.domain false) (Go.Proofs.Ytpdeopgmgeaglaa.Rows.holdWaitsSpec.post enc Go.Proofs.Try.prog Go.Proofs.Try.f3 false true false false) :=
  law (C := Go.Proofs.Try.checked) 8 [(.int .i64), (.int .i64), (.int .i64)] own started (by kernel_rfl) Go.Proofs.Try.func3
    (ChangeSpec.witness6 (enc := enc) (C := Go.Proofs.Try.checked) false ⟨#[], #[.int .i64 0, .int .i64 0, .int .i64 0], []⟩ 8 (by kernel_rfl) (by kernel_rfl) (by kernel_rfl) (by kernel_rfl))
    (by kernel_rfl) (by kernel_rfl) 4 Go.Proofs.Try.underlying4 (by kernel_rfl) rfl (by kernel_rfl)
    (fun ds h => match ds, h with | [d0, d1, d2], _ => rfl) contract
theorem over : Go.Proofs.Ytpdeopgmgeaglaa.Rows.holdWaitsRow.holds Go.Proofs.Ytpdeopgmgeaglaa.Try.pinned (OpenSpec.ofChange Go.Proofs.Ytpdeopgmgeaglaa.Rows.holdWaitsSpec) :=
  OpenClaim.holds_of_wide 3 Go.Proofs.Try.f3 rfl rfl rfl rfl rfl rfl rfl ⟨rfl, rfl, rfl, rfl, rfl⟩ rfl rfl rfl rfl rfl (by kernel_rfl) Go.Proofs.Try.func3 (by kernel_rfl)
    (of_decide_eq_true (by kernel_rfl)) (by unfold Func.isWrapper; first | (rw [if_pos (by decide +kernel)]; kernel_rfl) | (rw [if_neg (by decide +kernel)]; exact ⟨rfl, rfl⟩))
    (fun os started H enc _ => lifted os started H enc)
end Go.Proofs.YtpdeopgmgeaglaaA.LHoldWaits
namespace Go.Proofs.Ytpdeopgmgeaglaa
/-- The statement, under a short name, for the claim. -/
theorem holdWaits_holds : Rows.HoldWaitsSaid := Go.Proofs.YtpdeopgmgeaglaaA.LHoldWaits.over
end Go.Proofs.Ytpdeopgmgeaglaa
#print axioms Go.Proofs.Ytpdeopgmgeaglaa.holdWaits_holds
