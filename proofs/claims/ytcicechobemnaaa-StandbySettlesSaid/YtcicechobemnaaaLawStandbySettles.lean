/- StandbySettles: for every list of calls the law is true. No condition. -/
import Derived.Test.YtcicechobemnaaaRows
import Derived.Test.YtcicechobemnaaaAbs9
import Derived.Test.YtcicechobemnaaaWalkE
import Derived.ProofKit
set_option linter.unusedVariables false
set_option linter.unusedSimpArgs false
namespace Go.Proofs.YtcicechobemnaaaA.LStandbySettles
open Go
theorem shp22 : shape P 8 22 = some (.sl (.int .i64) 1 8) := by kernel_rfl
theorem contract : ∀ ls, Tys [(.sl (.int .i64) 1 8)] ls → AC P 5 (argsOf [(.sl (.int .i64) 1 8)] ls) [] (fun r _ => r = .d (.bool true)) := by
  intro ls h
  obtain ⟨l1, _, rfl, h1, rfl⟩ := h
  obtain ⟨l, rfl, hL⟩ := Ty.rows nE h1 fun r hr => by obtain ⟨n, rfl, _⟩ := hr; exact ⟨n, rfl⟩
  have hR : reachBytes = 140737488351232 := rfl
  exact settles_c l [] (by omega)
theorem own : ownKnob Go.Proofs.Try.prog.godebug = none := by kernel_rfl
set_option maxRecDepth 100000 in
theorem lifted (os : Os) (started : os.Started) (H : Type) (enc : TypeId × Value → H) :
    ReturnsInHanded {} Go.Proofs.Try.checked os 5 .any (Go.Proofs.Ytcicechobemnaaa.Rows.standbySettlesSpec.pre6 enc Go.Proofs.Try.prog Go.Proofs.Try.f5 Go.Proofs.Ytcicechobemnaaa.Rows.standbySettlesRow.domain false) (Go.Proofs.Ytcicechobemnaaa.Rows.standbySettlesSpec.post enc Go.Proofs.Try.prog Go.Proofs.Try.f5 false true false false) :=
  law (C := Go.Proofs.Try.checked) 8 [(.sl (.int .i64) 1 8)] own started (by kernel_rfl) Go.Proofs.Try.func5
    (ChangeSpec.witness6 (enc := enc) (C := Go.Proofs.Try.checked) false ⟨#[], #[.slice none 0 0], []⟩ 8 (by kernel_rfl) (by kernel_rfl) (by kernel_rfl) (by kernel_rfl))
    (by kernel_rfl) (by kernel_rfl) 4 Go.Proofs.Try.underlying4 (by kernel_rfl) rfl (by kernel_rfl)
    (fun ds h => match ds, h with | [d0], _ => rfl) contract
theorem over : Go.Proofs.Ytcicechobemnaaa.Rows.standbySettlesRow.holds Go.Proofs.Ytcicechobemnaaa.Try.pinned (OpenSpec.ofChange Go.Proofs.Ytcicechobemnaaa.Rows.standbySettlesSpec) :=
  OpenClaim.holds_of_wide 5 Go.Proofs.Try.f5 rfl rfl rfl rfl rfl rfl rfl ⟨rfl, rfl, rfl, rfl, rfl⟩ rfl rfl rfl rfl rfl (by kernel_rfl) Go.Proofs.Try.func5 (by kernel_rfl)
    (of_decide_eq_true (by kernel_rfl)) (by unfold Func.isWrapper; first | (rw [if_pos (by decide +kernel)]; kernel_rfl) | (rw [if_neg (by decide +kernel)]; exact ⟨rfl, rfl⟩))
    (fun os started H enc _ => lifted os started H enc)
end Go.Proofs.YtcicechobemnaaaA.LStandbySettles
namespace Go.Proofs.Ytcicechobemnaaa
/-- The statement, under a short name, for the claim. -/
theorem standbySettles_holds : Rows.StandbySettlesSaid := Go.Proofs.YtcicechobemnaaaA.LStandbySettles.over
end Go.Proofs.Ytcicechobemnaaa
#print axioms Go.Proofs.Ytcicechobemnaaa.standbySettles_holds
