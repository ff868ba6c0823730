/- ScreenScaled: for every view, point and number the law is true. No condition. -/
import Derived.Test.YtijgdgkfimnkbaaRows
import Derived.Test.YtijgdgkfimnkbaaAbs9
import Derived.Test.YtijgdgkfimnkbaaWalkD
import Derived.ProofKit
set_option linter.unusedVariables false
set_option linter.unusedSimpArgs false
namespace Go.Proofs.YtijgdgkfimnkbaaA.LScreenScaled
open Go
theorem shp23 : shape P 8 23 = some (.cons (.int .i64) (.cons (.int .i64) .unit)) := by kernel_rfl
theorem shp25 : shape P 8 25 = some (.cons (.cons (.int .i64) (.cons (.int .i64) .unit)) (.cons (.int .i64) (.cons (.int .i64) (.cons (.int .i64) .unit)))) := by kernel_rfl
theorem shp3 : shape P 8 3 = some (.int .i64) := by kernel_rfl
theorem contract : ∀ ls, Tys [(.cons (.cons (.int .i64) (.cons (.int .i64) .unit)) (.cons (.int .i64) (.cons (.int .i64) (.cons (.int .i64) .unit)))), (.cons (.int .i64) (.cons (.int .i64) .unit)), (.int .i64)] ls → AC P 3 (argsOf [(.cons (.cons (.int .i64) (.cons (.int .i64) .unit)) (.cons (.int .i64) (.cons (.int .i64) (.cons (.int .i64) .unit)))), (.cons (.int .i64) (.cons (.int .i64) .unit)), (.int .i64)] ls) [] (fun r _ => r = .d (.bool true)) := by
  intro ls h
  obtain ⟨l1, _, rfl, ⟨ma, _, rfl, ⟨na, _, rfl, ⟨m1, rfl, _⟩, nb, _, rfl, ⟨m2, rfl, _⟩, rfl⟩, mb, _, rfl, ⟨re, rfl, _⟩, mc, _, rfl, ⟨wi, rfl, _⟩, md, _, rfl, ⟨he, rfl, _⟩, rfl⟩, l2, _, rfl, ⟨aa, _, rfl, ⟨a1, rfl, _⟩, ab, _, rfl, ⟨a2, rfl, _⟩, rfl⟩, l3, _, rfl, ⟨q, rfl, _⟩, rfl⟩ := h
  exact scaled_c ⟨m1, m2, re, wi, he⟩ (a1, a2) q []
theorem own : ownKnob Go.Proofs.Try.prog.godebug = none := by kernel_rfl
set_option maxRecDepth 100000 in
theorem lifted (os : Os) (started : os.Started) (H : Type) (enc : TypeId × Value → H) :
    ReturnsInHanded {} Go.Proofs.Try.checked os 3 .any (Go.Proofs.Ytijgdgkfimnkbaa.Rows.screenScaledSpec.pre6 enc Go.Proofs.Try.prog Go.Proofs.Try.f3 Go.Proofs.Ytijgdgkfimnkbaa.Rows.screenScaledRow.domain false) (Go.Proofs.Ytijgdgkfimnkbaa.Rows.screenScaledSpec.post enc Go.Proofs.Try.prog Go.Proofs.Try.f3 false true false false) :=
  law (C := Go.Proofs.Try.checked) 8 [(.cons (.cons (.int .i64) (.cons (.int .i64) .unit)) (.cons (.int .i64) (.cons (.int .i64) (.cons (.int .i64) .unit)))), (.cons (.int .i64) (.cons (.int .i64) .unit)), (.int .i64)] own started (by kernel_rfl) Go.Proofs.Try.func3
    (ChangeSpec.witness6 (enc := enc) (C := Go.Proofs.Try.checked) false ⟨#[], #[.agg #[.int .i64 0, .int .i64 0, .int .i64 0, .int .i64 0, .int .i64 0], .agg #[.int .i64 0, .int .i64 0], .int .i64 0], []⟩ 8 (by kernel_rfl) (by kernel_rfl) (by kernel_rfl) (by kernel_rfl))
    (by kernel_rfl) (by kernel_rfl) 4 Go.Proofs.Try.underlying4 (by kernel_rfl) rfl (by kernel_rfl)
    (fun ds h => match ds, h with | [d0, d1, d2], _ => rfl) contract
theorem over : Go.Proofs.Ytijgdgkfimnkbaa.Rows.screenScaledRow.holds Go.Proofs.Ytijgdgkfimnkbaa.Try.pinned (OpenSpec.ofChange Go.Proofs.Ytijgdgkfimnkbaa.Rows.screenScaledSpec) :=
  OpenClaim.holds_of_wide 3 Go.Proofs.Try.f3 rfl rfl rfl rfl rfl rfl rfl ⟨rfl, rfl, rfl, rfl, rfl⟩ rfl rfl rfl rfl rfl (by kernel_rfl) Go.Proofs.Try.func3 (by kernel_rfl)
    (of_decide_eq_true (by kernel_rfl)) (by unfold Func.isWrapper; first | (rw [if_pos (by decide +kernel)]; kernel_rfl) | (rw [if_neg (by decide +kernel)]; exact ⟨rfl, rfl⟩))
    (fun os started H enc _ => lifted os started H enc)
end Go.Proofs.YtijgdgkfimnkbaaA.LScreenScaled
namespace Go.Proofs.Ytijgdgkfimnkbaa
/-- The statement, under a short name, for the claim. -/
theorem screenScaled_holds : Rows.ScreenScaledSaid := Go.Proofs.YtijgdgkfimnkbaaA.LScreenScaled.over
end Go.Proofs.Ytijgdgkfimnkbaa
#print axioms Go.Proofs.Ytijgdgkfimnkbaa.screenScaled_holds
