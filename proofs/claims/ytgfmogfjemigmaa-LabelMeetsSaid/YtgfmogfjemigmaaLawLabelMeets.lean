/- LabelMeets: for every two rectangles the law is true. No condition. -/
import Derived.Test.YtgfmogfjemigmaaRows
import Derived.Test.YtgfmogfjemigmaaAbs9
import Derived.Test.YtgfmogfjemigmaaWalkA
import Derived.ProofKit
set_option linter.unusedVariables false
set_option linter.unusedSimpArgs false
namespace Go.Proofs.YtgfmogfjemigmaaA.LLabelMeets
open Go
theorem shp23 : shape P 8 23 = some (.cons (.int .i64) (.cons (.int .i64) (.cons (.int .i64) (.cons (.int .i64) .unit)))) := by kernel_rfl
theorem contract : ∀ ls, Tys [(.cons (.int .i64) (.cons (.int .i64) (.cons (.int .i64) (.cons (.int .i64) .unit)))), (.cons (.int .i64) (.cons (.int .i64) (.cons (.int .i64) (.cons (.int .i64) .unit))))] ls → AC P 3 (argsOf [(.cons (.int .i64) (.cons (.int .i64) (.cons (.int .i64) (.cons (.int .i64) .unit)))), (.cons (.int .i64) (.cons (.int .i64) (.cons (.int .i64) (.cons (.int .i64) .unit))))] ls) [] (fun r _ => r = .d (.bool true)) := by
  intro ls h
  obtain ⟨l1, _, rfl, h1, l2, _, rfl, h2, rfl⟩ := h
  obtain ⟨a, rfl, _⟩ := lb_of h1
  obtain ⟨b, rfl, _⟩ := lb_of h2
  exact meets_c a b []
theorem own : ownKnob Go.Proofs.Try.prog.godebug = none := by kernel_rfl
set_option maxRecDepth 100000 in
theorem lifted (os : Os) (started : os.Started) (H : Type) (enc : TypeId × Value → H) :
    ReturnsInHanded {} Go.Proofs.Try.checked os 3 .any (Go.Proofs.Ytgfmogfjemigmaa.Rows.labelMeetsSpec.pre6 enc Go.Proofs.Try.prog Go.Proofs.Try.f3 Go.Proofs.Ytgfmogfjemigmaa.Rows.labelMeetsRow.domain false) (Go.Proofs.Ytgfmogfjemigmaa.Rows.labelMeetsSpec.post enc Go.Proofs.Try.prog Go.Proofs.Try.f3 false true false false) :=
  law (C := Go.Proofs.Try.checked) 8 [(.cons (.int .i64) (.cons (.int .i64) (.cons (.int .i64) (.cons (.int .i64) .unit)))), (.cons (.int .i64) (.cons (.int .i64) (.cons (.int .i64) (.cons (.int .i64) .unit))))] own started (by kernel_rfl) Go.Proofs.Try.func3
    (ChangeSpec.witness6 (enc := enc) (C := Go.Proofs.Try.checked) false ⟨#[], #[.agg #[.int .i64 0, .int .i64 0, .int .i64 0, .int .i64 0], .agg #[.int .i64 0, .int .i64 0, .int .i64 0, .int .i64 0]], []⟩ 8 (by kernel_rfl) (by kernel_rfl) (by kernel_rfl) (by kernel_rfl))
    (by kernel_rfl) (by kernel_rfl) 4 Go.Proofs.Try.underlying4 (by kernel_rfl) rfl (by kernel_rfl)
    (fun ds h => match ds, h with | [d0, d1], _ => rfl) contract
theorem over : Go.Proofs.Ytgfmogfjemigmaa.Rows.labelMeetsRow.holds Go.Proofs.Ytgfmogfjemigmaa.Try.pinned (OpenSpec.ofChange Go.Proofs.Ytgfmogfjemigmaa.Rows.labelMeetsSpec) :=
  OpenClaim.holds_of_wide 3 Go.Proofs.Try.f3 rfl rfl rfl rfl rfl rfl rfl ⟨rfl, rfl, rfl, rfl, rfl⟩ rfl rfl rfl rfl rfl (by kernel_rfl) Go.Proofs.Try.func3 (by kernel_rfl)
    (of_decide_eq_true (by kernel_rfl)) (by unfold Func.isWrapper; first | (rw [if_pos (by decide +kernel)]; kernel_rfl) | (rw [if_neg (by decide +kernel)]; exact ⟨rfl, rfl⟩))
    (fun os started H enc _ => lifted os started H enc)
end Go.Proofs.YtgfmogfjemigmaaA.LLabelMeets
namespace Go.Proofs.Ytgfmogfjemigmaa
/-- The statement, under a short name, for the claim. -/
theorem labelMeets_holds : Rows.LabelMeetsSaid := Go.Proofs.YtgfmogfjemigmaaA.LLabelMeets.over
end Go.Proofs.Ytgfmogfjemigmaa
#print axioms Go.Proofs.Ytgfmogfjemigmaa.labelMeets_holds
