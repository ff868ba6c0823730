/- ClockOrder: for every list of events the law is true. No condition. -/
import Derived.Test.YtjmadiegikbjpaaRows
import Derived.Test.YtjmadiegikbjpaaAbs9
import Derived.Test.YtjmadiegikbjpaaWalkE
import Derived.ProofKit
set_option linter.unusedVariables false
set_option linter.unusedSimpArgs false
namespace Go.Proofs.YtjmadiegikbjpaaA.LClockOrder
open Go
theorem shp23 : shape P 8 23 = some (.sl (.cons (.int .i64) (.cons (.int .i64) (.cons (.int .i64) .unit))) 3 24) := by kernel_rfl
theorem contract : ∀ ls, Tys [(.sl (.cons (.int .i64) (.cons (.int .i64) (.cons (.int .i64) .unit))) 3 24)] ls → AC P 7 (argsOf [(.sl (.cons (.int .i64) (.cons (.int .i64) (.cons (.int .i64) .unit))) 3 24)] ls) [] (fun r _ => r = .d (.bool true)) := by
  intro ls h
  obtain ⟨l1, _, rfl, h1, rfl⟩ := h
  obtain ⟨l, rfl, hL⟩ := Ty.rows Ev.enc h1 fun r hr => by obtain ⟨x, rfl⟩ := ev_of hr; exact ⟨x, rfl⟩
  have hR : reachBytes = 140737488351232 := rfl
  exact orderL_c l [] (by omega)
theorem own : ownKnob Go.Proofs.Try.prog.godebug = none := by kernel_rfl
set_option maxRecDepth 100000 in
theorem lifted (os : Os) (started : os.Started) (H : Type) (enc : TypeId × Value → H) :
    ReturnsInHanded {} Go.Proofs.Try.checked os 7 .any (Go.Proofs.Ytjmadiegikbjpaa.Rows.clockOrderSpec.pre6 enc Go.Proofs.Try.prog Go.Proofs.Try.f7 Go.Proofs.Ytjmadiegikbjpaa.Rows.clockOrderRow.domain false) (Go.Proofs.Ytjmadiegikbjpaa.Rows.clockOrderSpec.post enc Go.Proofs.Try.prog Go.Proofs.Try.f7 false true false false) :=
  law (C := Go.Proofs.Try.checked) 8 [(.sl (.cons (.int .i64) (.cons (.int .i64) (.cons (.int .i64) .unit))) 3 24)] own started (by kernel_rfl) Go.Proofs.Try.func7
    (ChangeSpec.witness6 (enc := enc) (C := Go.Proofs.Try.checked) false ⟨#[], #[.slice none 0 0], []⟩ 8 (by kernel_rfl) (by kernel_rfl) (by kernel_rfl) (by kernel_rfl))
    (by kernel_rfl) (by kernel_rfl) 4 Go.Proofs.Try.underlying4 (by kernel_rfl) rfl (by kernel_rfl)
    (fun ds h => match ds, h with | [d0], _ => rfl) contract
theorem over : Go.Proofs.Ytjmadiegikbjpaa.Rows.clockOrderRow.holds Go.Proofs.Ytjmadiegikbjpaa.Try.pinned (OpenSpec.ofChange Go.Proofs.Ytjmadiegikbjpaa.Rows.clockOrderSpec) :=
  OpenClaim.holds_of_wide 7 Go.Proofs.Try.f7 rfl rfl rfl rfl rfl rfl rfl ⟨rfl, rfl, rfl, rfl, rfl⟩ rfl rfl rfl rfl rfl (by kernel_rfl) Go.Proofs.Try.func7 (by kernel_rfl)
    (of_decide_eq_true (by kernel_rfl)) (by unfold Func.isWrapper; first | (rw [if_pos (by decide +kernel)]; kernel_rfl) | (rw [if_neg (by decide +kernel)]; exact ⟨rfl, rfl⟩))
    (fun os started H enc _ => lifted os started H enc)
end Go.Proofs.YtjmadiegikbjpaaA.LClockOrder
namespace Go.Proofs.Ytjmadiegikbjpaa
/-- The statement, under a short name, for the claim. -/
theorem clockOrder_holds : Rows.ClockOrderSaid := Go.Proofs.YtjmadiegikbjpaaA.LClockOrder.over
end Go.Proofs.Ytjmadiegikbjpaa
#print axioms Go.Proofs.Ytjmadiegikbjpaa.clockOrder_holds
