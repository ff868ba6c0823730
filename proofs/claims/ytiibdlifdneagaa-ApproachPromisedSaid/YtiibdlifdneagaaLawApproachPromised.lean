/- ApproachPromised: for every list and gaps the law is true. No condition. -/
import Derived.Test.YtiibdlifdneagaaRows
import Derived.Test.YtiibdlifdneagaaAbs9
import Derived.Test.YtiibdlifdneagaaWalkF
import Derived.ProofKit
set_option linter.unusedVariables false
set_option linter.unusedSimpArgs false
namespace Go.Proofs.YtiibdlifdneagaaA.LApproachPromised
open Go
theorem shp22 : shape P 8 22 = some (.sl (.cons .str (.cons (.int .i64) (.cons (.int .i64) (.cons (.int .i64) .unit)))) 4 40) := by kernel_rfl
theorem shp24 : shape P 8 24 = some (.cons (.cons (.int .i64) (.cons (.int .i64) (.cons (.int .i64) (.cons (.int .i64) .unit)))) (.cons (.cons (.int .i64) (.cons (.int .i64) (.cons (.int .i64) (.cons (.int .i64) .unit)))) (.cons (.cons (.int .i64) (.cons (.int .i64) (.cons (.int .i64) (.cons (.int .i64) .unit)))) (.cons (.cons (.int .i64) (.cons (.int .i64) (.cons (.int .i64) (.cons (.int .i64) .unit)))) .unit)))) := by kernel_rfl
theorem contract : ∀ ls, Tys [(.sl (.cons .str (.cons (.int .i64) (.cons (.int .i64) (.cons (.int .i64) .unit)))) 4 40), (.cons (.cons (.int .i64) (.cons (.int .i64) (.cons (.int .i64) (.cons (.int .i64) .unit)))) (.cons (.cons (.int .i64) (.cons (.int .i64) (.cons (.int .i64) (.cons (.int .i64) .unit)))) (.cons (.cons (.int .i64) (.cons (.int .i64) (.cons (.int .i64) (.cons (.int .i64) .unit)))) (.cons (.cons (.int .i64) (.cons (.int .i64) (.cons (.int .i64) (.cons (.int .i64) .unit)))) .unit))))] ls → AC P 6 (argsOf [(.sl (.cons .str (.cons (.int .i64) (.cons (.int .i64) (.cons (.int .i64) .unit)))) 4 40), (.cons (.cons (.int .i64) (.cons (.int .i64) (.cons (.int .i64) (.cons (.int .i64) .unit)))) (.cons (.cons (.int .i64) (.cons (.int .i64) (.cons (.int .i64) (.cons (.int .i64) .unit)))) (.cons (.cons (.int .i64) (.cons (.int .i64) (.cons (.int .i64) (.cons (.int .i64) .unit)))) (.cons (.cons (.int .i64) (.cons (.int .i64) (.cons (.int .i64) (.cons (.int .i64) .unit)))) .unit))))] ls) [] (fun r _ => r = .d (.bool true)) := by
  intro ls h
  obtain ⟨l1, _, rfl, h1, l2, _, rfl, h2, rfl⟩ := h
  obtain ⟨l, rfl, hL, hW⟩ := Ty.rowsP Item.enc itemWf h1 fun r hr => item_of hr
  obtain ⟨gv, rfl⟩ := gaps_of h2
  have hR : reachBytes = 140737488351232 := rfl
  exact promised_c l gv [] (by omega)
theorem own : ownKnob Go.Proofs.Try.prog.godebug = none := by kernel_rfl
set_option maxRecDepth 100000 in
theorem lifted (os : Os) (started : os.Started) (H : Type) (enc : TypeId × Value → H) :
    ReturnsInHanded {} Go.Proofs.Try.checked os 6 .any (Go.Proofs.Ytiibdlifdneagaa.Rows.approachPromisedSpec.pre6 enc Go.Proofs.Try.prog Go.Proofs.Try.f6 Go.Proofs.Ytiibdlifdneagaa.Rows.approachPromisedRow.domain false) (Go.Proofs.Ytiibdlifdneagaa.Rows.approachPromisedSpec.post enc Go.Proofs.Try.prog Go.Proofs.Try.f6 false true false false) :=
  law (C := Go.Proofs.Try.checked) 8 [(.sl (.cons .str (.cons (.int .i64) (.cons (.int .i64) (.cons (.int .i64) .unit)))) 4 40), (.cons (.cons (.int .i64) (.cons (.int .i64) (.cons (.int .i64) (.cons (.int .i64) .unit)))) (.cons (.cons (.int .i64) (.cons (.int .i64) (.cons (.int .i64) (.cons (.int .i64) .unit)))) (.cons (.cons (.int .i64) (.cons (.int .i64) (.cons (.int .i64) (.cons (.int .i64) .unit)))) (.cons (.cons (.int .i64) (.cons (.int .i64) (.cons (.int .i64) (.cons (.int .i64) .unit)))) .unit))))] own started (by kernel_rfl) Go.Proofs.Try.func6
    (ChangeSpec.witness6 (enc := enc) (C := Go.Proofs.Try.checked) false ⟨#[], #[.slice none 0 0, .agg #[.int .i64 0, .int .i64 0, .int .i64 0, .int .i64 0, .int .i64 0, .int .i64 0, .int .i64 0, .int .i64 0, .int .i64 0, .int .i64 0, .int .i64 0, .int .i64 0, .int .i64 0, .int .i64 0, .int .i64 0, .int .i64 0]], []⟩ 8 (by kernel_rfl) (by kernel_rfl) (by kernel_rfl) (by kernel_rfl))
    (by kernel_rfl) (by kernel_rfl) 4 Go.Proofs.Try.underlying4 (by kernel_rfl) rfl (by kernel_rfl)
    (fun ds h => match ds, h with | [d0, d1], _ => rfl) contract
theorem over : Go.Proofs.Ytiibdlifdneagaa.Rows.approachPromisedRow.holds Go.Proofs.Ytiibdlifdneagaa.Try.pinned (OpenSpec.ofChange Go.Proofs.Ytiibdlifdneagaa.Rows.approachPromisedSpec) :=
  OpenClaim.holds_of_wide 6 Go.Proofs.Try.f6 rfl rfl rfl rfl rfl rfl rfl ⟨rfl, rfl, rfl, rfl, rfl⟩ rfl rfl rfl rfl rfl (by kernel_rfl) Go.Proofs.Try.func6 (by kernel_rfl)
    (of_decide_eq_true (by kernel_rfl)) (by unfold Func.isWrapper; first | (rw [if_pos (by decide +kernel)]; kernel_rfl) | (rw [if_neg (by decide +kernel)]; exact ⟨rfl, rfl⟩))
    (fun os started H enc _ => lifted os started H enc)
end Go.Proofs.YtiibdlifdneagaaA.LApproachPromised
namespace Go.Proofs.Ytiibdlifdneagaa
/-- The statement, under a short name, for the claim. -/
theorem approachPromised_holds : Rows.ApproachPromisedSaid := Go.Proofs.YtiibdlifdneagaaA.LApproachPromised.over
end Go.Proofs.Ytiibdlifdneagaa
#print axioms Go.Proofs.Ytiibdlifdneagaa.approachPromised_holds
