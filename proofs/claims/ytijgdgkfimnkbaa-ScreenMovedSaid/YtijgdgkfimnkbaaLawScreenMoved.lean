/- ScreenMoved: for every three cells the law is true. No condition. -/
import Derived.Test.YtijgdgkfimnkbaaRows
import Derived.Test.YtijgdgkfimnkbaaAbs9
import Derived.Test.YtijgdgkfimnkbaaWalkD
import Derived.ProofKit
set_option linter.unusedVariables false
set_option linter.unusedSimpArgs false
namespace Go.Proofs.YtijgdgkfimnkbaaA.LScreenMoved
open Go
theorem shp27 : shape P 8 27 = some (.cons (.int .i64) (.cons (.int .i64) .unit)) := by kernel_rfl
theorem contract : ∀ ls, Tys [(.cons (.int .i64) (.cons (.int .i64) .unit)), (.cons (.int .i64) (.cons (.int .i64) .unit)), (.cons (.int .i64) (.cons (.int .i64) .unit))] ls → AC P 6 (argsOf [(.cons (.int .i64) (.cons (.int .i64) .unit)), (.cons (.int .i64) (.cons (.int .i64) .unit)), (.cons (.int .i64) (.cons (.int .i64) .unit))] ls) [] (fun r _ => r = .d (.bool true)) := by
  intro ls h
  obtain ⟨l1, _, rfl, ⟨aa, _, rfl, ⟨a1, rfl, _⟩, ab, _, rfl, ⟨a2, rfl, _⟩, rfl⟩, l2, _, rfl, ⟨ba, _, rfl, ⟨b1, rfl, _⟩, bb, _, rfl, ⟨b2, rfl, _⟩, rfl⟩, l3, _, rfl, ⟨ca, _, rfl, ⟨c1, rfl, _⟩, cb, _, rfl, ⟨c2, rfl, _⟩, rfl⟩, rfl⟩ := h
  exact moved_c (a1, a2) (b1, b2) (c1, c2) []
theorem own : ownKnob Go.Proofs.Try.prog.godebug = none := by kernel_rfl
set_option maxRecDepth 100000 in
theorem lifted (os : Os) (started : os.Started) (H : Type) (enc : TypeId × Value → H) :
    ReturnsInHanded {} Go.Proofs.Try.checked os 6 .any (Go.Proofs.Ytijgdgkfimnkbaa.Rows.screenMovedSpec.pre6 enc Go.Proofs.Try.prog Go.Proofs.Try.f6 Go.Proofs.Ytijgdgkfimnkbaa.Rows.screenMovedRow.domain false) (Go.Proofs.Ytijgdgkfimnkbaa.Rows.screenMovedSpec.post enc Go.Proofs.Try.prog Go.Proofs.Try.f6 false true false false) :=
  law (C := Go.Proofs.Try.checked) 8 [(.cons (.int .i64) (.cons (.int .i64) .unit)), (.cons (.int .i64) (.cons (.int .i64) .unit)), (.cons (.int .i64) (.cons (.int .i64) .unit))] own started (by kernel_rfl) Go.Proofs.Try.func6
    (ChangeSpec.witness6 (enc := enc) (C := Go.Proofs.Try.checked) false ⟨#[], #[.agg #[.int .i64 0, .int .i64 0], .agg #[.int .i64 0, .int .i64 0], .agg #[.int .i64 0, .int .i64 0]], []⟩ 8 (by kernel_rfl) (by kernel_rfl) (by kernel_rfl) (by kernel_rfl))
    (by kernel_rfl) (by kernel_rfl) 4 Go.Proofs.Try.underlying4 (by kernel_rfl) rfl (by kernel_rfl)
    (fun ds h => match ds, h with | [d0, d1, d2], _ => rfl) contract
theorem over : Go.Proofs.Ytijgdgkfimnkbaa.Rows.screenMovedRow.holds Go.Proofs.Ytijgdgkfimnkbaa.Try.pinned (OpenSpec.ofChange Go.Proofs.Ytijgdgkfimnkbaa.Rows.screenMovedSpec) :=
  OpenClaim.holds_of_wide 6 Go.Proofs.Try.f6 rfl rfl rfl rfl rfl rfl rfl ⟨rfl, rfl, rfl, rfl, rfl⟩ rfl rfl rfl rfl rfl (by kernel_rfl) Go.Proofs.Try.func6 (by kernel_rfl)
    (of_decide_eq_true (by kernel_rfl)) (by unfold Func.isWrapper; first | (rw [if_pos (by decide +kernel)]; kernel_rfl) | (rw [if_neg (by decide +kernel)]; exact ⟨rfl, rfl⟩))
    (fun os started H enc _ => lifted os started H enc)
end Go.Proofs.YtijgdgkfimnkbaaA.LScreenMoved
namespace Go.Proofs.Ytijgdgkfimnkbaa
/-- The statement, under a short name, for the claim. -/
theorem screenMoved_holds : Rows.ScreenMovedSaid := Go.Proofs.YtijgdgkfimnkbaaA.LScreenMoved.over
end Go.Proofs.Ytijgdgkfimnkbaa
#print axioms Go.Proofs.Ytijgdgkfimnkbaa.screenMoved_holds
