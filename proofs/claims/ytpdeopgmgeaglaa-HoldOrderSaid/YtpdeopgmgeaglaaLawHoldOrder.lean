/- HoldOrder: for every list of calls the law is true. No condition. -/
import Derived.Test.YtpdeopgmgeaglaaRows
import Derived.Test.YtpdeopgmgeaglaaAbs9
import Derived.Test.YtpdeopgmgeaglaaWalkE
import Derived.ProofKit
set_option linter.unusedVariables false
set_option linter.unusedSimpArgs false
namespace Go.Proofs.YtpdeopgmgeaglaaA.LHoldOrder
open Go
theorem shp32 : shape P 8 32 = some (.sl (.int .i64) 1 8) := by kernel_rfl
theorem contract : ∀ ls, Tys [(.sl (.int .i64) 1 8)] ls → AC P 6 (argsOf [(.sl (.int .i64) 1 8)] ls) [] (fun r _ => r = .d (.bool true)) := by
  intro ls h
  obtain ⟨l1, _, rfl, h1, rfl⟩ := h
  obtain ⟨l, rfl, hL⟩ := Ty.rows nE h1 fun r hr => by obtain ⟨n, rfl, _⟩ := hr; exact ⟨n, rfl⟩
  have hR : reachBytes = 140737488351232 := rfl
  exact order_c l [] (by omega)
theorem own : ownKnob Go.Proofs.Try.prog.godebug = none := by kernel_rfl
set_option maxRecDepth 100000 in
theorem lifted (os : Os) (started : os.Started) (H : Type) (enc : TypeId × Value → H) :
    ReturnsInHanded {} Go.Proofs.Try.checked os 6 .any (Go.Proofs.Ytpdeopgmgeaglaa.Rows.holdOrderSpec.pre6 enc Go.Proofs.Try.prog Go.Proofs.Try.f6 Go.Proofs.Ytpdeopgmgeaglaa.Rows.holdOrderRow.domain false) (Go.Proofs.Ytpdeopgmgeaglaa.Rows.holdOrderSpec.post enc Go.Proofs.Try.prog Go.Proofs.Try.f6 false true false false) :=
  law (C := Go.Proofs.Try.checked) 8 [(.sl (.int .i64) 1 8)] own started (by kernel_rfl) Go.Proofs.Try.func6
    (ChangeSpec.witness6 (enc := enc) (C := Go.Proofs.Try.checked) false ⟨#[], #[.slice none 0 0], []⟩ 8 (by kernel_rfl) (by kernel_rfl) (by kernel_rfl) (by kernel_rfl))
    (by kernel_rfl) (by kernel_rfl) 4 Go.Proofs.Try.underlying4 (by kernel_rfl) rfl (by kernel_rfl)
    (fun ds h => match ds, h with | [d0], _ => rfl) contract
theorem over : Go.Proofs.Ytpdeopgmgeaglaa.Rows.holdOrderRow.holds Go.Proofs.Ytpdeopgmgeaglaa.Try.pinned (OpenSpec.ofChange Go.Proofs.Ytpdeopgmgeaglaa.Rows.holdOrderSpec) :=
  OpenClaim.holds_of_wide 6 Go.Proofs.Try.f6 rfl rfl rfl rfl rfl rfl rfl ⟨rfl, rfl, rfl, rfl, rfl⟩ rfl rfl rfl rfl rfl (by kernel_rfl) Go.Proofs.Try.func6 (by kernel_rfl)
    (of_decide_eq_true (by kernel_rfl)) (by unfold Func.isWrapper; first | (rw [if_pos (by decide +kernel)]; kernel_rfl) | (rw [if_neg (by decide +kernel)]; exact ⟨rfl, rfl⟩))
    (fun os started H enc _ => lifted os started H enc)
end Go.Proofs.YtpdeopgmgeaglaaA.LHoldOrder
namespace Go.Proofs.Ytpdeopgmgeaglaa
/-- The statement, under a short name, for the claim. -/
theorem holdOrder_holds : Rows.HoldOrderSaid := Go.Proofs.YtpdeopgmgeaglaaA.LHoldOrder.over
end Go.Proofs.Ytpdeopgmgeaglaa
#print axioms Go.Proofs.Ytpdeopgmgeaglaa.holdOrder_holds
