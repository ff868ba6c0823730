/- ClockApart: for every list and every two numbers the law is true. No condition. -/
import Derived.Test.YtjmadiegikbjpaaRows
import Derived.Test.YtjmadiegikbjpaaAbs9
import Derived.Test.YtjmadiegikbjpaaWalkD
import Derived.ProofKit
set_option linter.unusedVariables false
set_option linter.unusedSimpArgs false
namespace Go.Proofs.YtjmadiegikbjpaaA.LClockApart
open Go
theorem shp22 : shape P 8 22 = some (.sl (.int .i64) 1 8) := by kernel_rfl
theorem shp3 : shape P 8 3 = some (.int .i64) := by kernel_rfl
theorem contract : ∀ ls, Tys [(.sl (.int .i64) 1 8), (.int .i64), (.int .i64)] ls → AC P 3 (argsOf [(.sl (.int .i64) 1 8), (.int .i64), (.int .i64)] ls) [] (fun r _ => r = .d (.bool true)) := by
  intro ls h
  obtain ⟨l1, _, rfl, h1, l2, _, rfl, ⟨x, rfl, _⟩, l3, _, rfl, ⟨y, rfl, _⟩, rfl⟩ := h
  obtain ⟨l, rfl, hL⟩ := Ty.rows nE h1 fun r hr => by obtain ⟨n, rfl, _⟩ := hr; exact ⟨n, rfl⟩
  have hR : reachBytes = 140737488351232 := rfl
  exact apart_c l x y [] (by omega)
theorem own : ownKnob Go.Proofs.Try.prog.godebug = none := by kernel_rfl
set_option maxRecDepth 100000 in
theorem lifted (os : Os) (started : os.Started) (H : Type) (enc : TypeId × Value → H) :
    ReturnsInHanded {} Go.Proofs.Try.checked os 3 .any (Go.Proofs.Ytjmadiegikbjpaa.Rows.clockApartSpec.pre6 enc Go.Proofs.Try.prog Go.Proofs.Try.f3 Go.Proofs.Ytjmadiegikbjpaa.Rows.clockApartRow.domain false) (Go.Proofs.Ytjmadiegikbjpaa.Rows.clockApartSpec.post enc Go.Proofs.Try.prog Go.Proofs.Try.f3 false true false false) :=
  law (C := Go.Proofs.Try.checked) 8 [(.sl (.int .i64) 1 8), (.int .i64), (.int .i64)] own started (by kernel_rfl) Go.Proofs.Try.func3
    (ChangeSpec.witness6 (enc := enc) (C := Go.Proofs.Try.checked) false ⟨#[], #[.slice none 0 0, .int .i64 0, .int .i64 0], []⟩ 8 (by kernel_rfl) (by kernel_rfl) (by kernel_rfl) (by kernel_rfl))
    (by kernel_rfl) (by kernel_rfl) 4 Go.Proofs.Try.underlying4 (by kernel_rfl) rfl (by kernel_rfl)
    (fun ds h => match ds, h with | [d0, d1, d2], _ => rfl) contract
theorem over : Go.Proofs.Ytjmadiegikbjpaa.Rows.clockApartRow.holds Go.Proofs.Ytjmadiegikbjpaa.Try.pinned (OpenSpec.ofChange Go.Proofs.Ytjmadiegikbjpaa.Rows.clockApartSpec) :=
  OpenClaim.holds_of_wide 3 Go.Proofs.Try.f3 rfl rfl rfl rfl rfl rfl rfl ⟨rfl, rfl, rfl, rfl, rfl⟩ rfl rfl rfl rfl rfl (by kernel_rfl) Go.Proofs.Try.func3 (by kernel_rfl)
    (of_decide_eq_true (by kernel_rfl)) (by unfold Func.isWrapper; first | (rw [if_pos (by decide +kernel)]; kernel_rfl) | (rw [if_neg (by decide +kernel)]; exact ⟨rfl, rfl⟩))
    (fun os started H enc _ => lifted os started H enc)
end Go.Proofs.YtjmadiegikbjpaaA.LClockApart
namespace Go.Proofs.Ytjmadiegikbjpaa
/-- The statement, under a short name, for the claim. -/
theorem clockApart_holds : Rows.ClockApartSaid := Go.Proofs.YtjmadiegikbjpaaA.LClockApart.over
end Go.Proofs.Ytjmadiegikbjpaa
#print axioms Go.Proofs.Ytjmadiegikbjpaa.clockApart_holds
