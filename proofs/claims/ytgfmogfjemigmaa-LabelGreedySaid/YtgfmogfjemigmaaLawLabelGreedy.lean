/- LabelGreedy: for every list of points the law is true. No condition. -/
import Derived.Test.YtgfmogfjemigmaaRows
import Derived.Test.YtgfmogfjemigmaaAbs9
import Derived.Test.YtgfmogfjemigmaaWalkD
import Derived.ProofKit
set_option linter.unusedVariables false
set_option linter.unusedSimpArgs false
namespace Go.Proofs.YtgfmogfjemigmaaA.LLabelGreedy
open Go
theorem shp29 : shape P 8 29 = some (.sl (.cons (.int .i64) (.cons (.int .i64) (.cons (.int .i64) (.cons (.int .i64) .unit)))) 4 32) := by kernel_rfl
theorem contract : ∀ ls, Tys [(.sl (.cons (.int .i64) (.cons (.int .i64) (.cons (.int .i64) (.cons (.int .i64) .unit)))) 4 32)] ls → AC P 5 (argsOf [(.sl (.cons (.int .i64) (.cons (.int .i64) (.cons (.int .i64) (.cons (.int .i64) .unit)))) 4 32)] ls) [] (fun r _ => r = .d (.bool true)) := by
  intro ls h
  obtain ⟨l1, _, rfl, h1, rfl⟩ := h
  obtain ⟨l, rfl, hL⟩ := Ty.rows LB.enc h1 fun r hr => by obtain ⟨x, rfl, _⟩ := lb_of hr; exact ⟨x, rfl⟩
  have hR : reachBytes = 140737488351232 := rfl
  exact greedyL_c l [] (by omega)
theorem own : ownKnob Go.Proofs.Try.prog.godebug = none := by kernel_rfl
set_option maxRecDepth 100000 in
theorem lifted (os : Os) (started : os.Started) (H : Type) (enc : TypeId × Value → H) :
    ReturnsInHanded {} Go.Proofs.Try.checked os 5 .any (Go.Proofs.Ytgfmogfjemigmaa.Rows.labelGreedySpec.pre6 enc Go.Proofs.Try.prog Go.Proofs.Try.f5 Go.Proofs.Ytgfmogfjemigmaa.Rows.labelGreedyRow.domain false) (Go.Proofs.Ytgfmogfjemigmaa.Rows.labelGreedySpec.post enc Go.Proofs.Try.prog Go.Proofs.Try.f5 false true false false) :=
  law (C := Go.Proofs.Try.checked) 8 [(.sl (.cons (.int .i64) (.cons (.int .i64) (.cons (.int .i64) (.cons (.int .i64) .unit)))) 4 32)] own started (by kernel_rfl) Go.Proofs.Try.func5
    (ChangeSpec.witness6 (enc := enc) (C := Go.Proofs.Try.checked) false ⟨#[], #[.slice none 0 0], []⟩ 8 (by kernel_rfl) (by kernel_rfl) (by kernel_rfl) (by kernel_rfl))
    (by kernel_rfl) (by kernel_rfl) 4 Go.Proofs.Try.underlying4 (by kernel_rfl) rfl (by kernel_rfl)
    (fun ds h => match ds, h with | [d0], _ => rfl) contract
theorem over : Go.Proofs.Ytgfmogfjemigmaa.Rows.labelGreedyRow.holds Go.Proofs.Ytgfmogfjemigmaa.Try.pinned (OpenSpec.ofChange Go.Proofs.Ytgfmogfjemigmaa.Rows.labelGreedySpec) :=
  OpenClaim.holds_of_wide 5 Go.Proofs.Try.f5 rfl rfl rfl rfl rfl rfl rfl ⟨rfl, rfl, rfl, rfl, rfl⟩ rfl rfl rfl rfl rfl (by kernel_rfl) Go.Proofs.Try.func5 (by kernel_rfl)
    (of_decide_eq_true (by kernel_rfl)) (by unfold Func.isWrapper; first | (rw [if_pos (by decide +kernel)]; kernel_rfl) | (rw [if_neg (by decide +kernel)]; exact ⟨rfl, rfl⟩))
    (fun os started H enc _ => lifted os started H enc)
end Go.Proofs.YtgfmogfjemigmaaA.LLabelGreedy
namespace Go.Proofs.Ytgfmogfjemigmaa
/-- The statement, under a short name, for the claim. -/
theorem labelGreedy_holds : Rows.LabelGreedySaid := Go.Proofs.YtgfmogfjemigmaaA.LLabelGreedy.over
end Go.Proofs.Ytgfmogfjemigmaa
#print axioms Go.Proofs.Ytgfmogfjemigmaa.labelGreedy_holds
