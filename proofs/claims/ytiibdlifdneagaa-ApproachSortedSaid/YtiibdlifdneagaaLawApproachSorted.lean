/- ApproachSorted: for every list and every number the law is true. No condition. -/
import Derived.Test.YtiibdlifdneagaaRows
import Derived.Test.YtiibdlifdneagaaAbs9
import Derived.Test.YtiibdlifdneagaaWalkG
import Derived.ProofKit
set_option linter.unusedVariables false
set_option linter.unusedSimpArgs false
namespace Go.Proofs.YtiibdlifdneagaaA.LApproachSorted
open Go
theorem shp22 : shape P 8 22 = some (.sl (.cons .str (.cons (.int .i64) (.cons (.int .i64) (.cons (.int .i64) .unit)))) 4 40) := by kernel_rfl
theorem shp3 : shape P 8 3 = some (.int .i64) := by kernel_rfl
theorem contract : ∀ ls, Tys [(.sl (.cons .str (.cons (.int .i64) (.cons (.int .i64) (.cons (.int .i64) .unit)))) 4 40), (.int .i64)] ls → AC P 7 (argsOf [(.sl (.cons .str (.cons (.int .i64) (.cons (.int .i64) (.cons (.int .i64) .unit)))) 4 40), (.int .i64)] ls) [] (fun r _ => r = .d (.bool true)) := by
  intro ls h
  obtain ⟨l1, _, rfl, h1, l2, _, rfl, ⟨c, rfl, _⟩, rfl⟩ := h
  obtain ⟨l, rfl, hL, hW⟩ := Ty.rowsP Item.enc itemWf h1 fun r hr => item_of hr
  have hR : reachBytes = 140737488351232 := rfl
  exact sorted_c l c [] (by omega)
theorem own : ownKnob Go.Proofs.Try.prog.godebug = none := by kernel_rfl
set_option maxRecDepth 100000 in
theorem lifted (os : Os) (started : os.Started) (H : Type) (enc : TypeId × Value → H) :
    ReturnsInHanded {} Go.Proofs.Try.checked os 7 .any (Go.Proofs.Ytiibdlifdneagaa.Rows.approachSortedSpec.pre6 enc Go.Proofs.Try.prog Go.Proofs.Try.f7 Go.Proofs.Ytiibdlifdneagaa.Rows.approachSortedRow.domain false) (Go.Proofs.Ytiibdlifdneagaa.Rows.approachSortedSpec.post enc Go.Proofs.Try.prog Go.Proofs.Try.f7 false true false false) :=
  law (C := Go.Proofs.Try.checked) 8 [(.sl (.cons .str (.cons (.int .i64) (.cons (.int .i64) (.cons (.int .i64) .unit)))) 4 40), (.int .i64)] own started (by kernel_rfl) Go.Proofs.Try.func7
    (ChangeSpec.witness6 (enc := enc) (C := Go.Proofs.Try.checked) false ⟨#[], #[.slice none 0 0, .int .i64 0], []⟩ 8 (by kernel_rfl) (by kernel_rfl) (by kernel_rfl) (by kernel_rfl))
    (by kernel_rfl) (by kernel_rfl) 4 Go.Proofs.Try.underlying4 (by kernel_rfl) rfl (by kernel_rfl)
    (fun ds h => match ds, h with | [d0, d1], _ => rfl) contract
theorem over : Go.Proofs.Ytiibdlifdneagaa.Rows.approachSortedRow.holds Go.Proofs.Ytiibdlifdneagaa.Try.pinned (OpenSpec.ofChange Go.Proofs.Ytiibdlifdneagaa.Rows.approachSortedSpec) :=
  OpenClaim.holds_of_wide 7 Go.Proofs.Try.f7 rfl rfl rfl rfl rfl rfl rfl ⟨rfl, rfl, rfl, rfl, rfl⟩ rfl rfl rfl rfl rfl (by kernel_rfl) Go.Proofs.Try.func7 (by kernel_rfl)
    (of_decide_eq_true (by kernel_rfl)) (by unfold Func.isWrapper; first | (rw [if_pos (by decide +kernel)]; kernel_rfl) | (rw [if_neg (by decide +kernel)]; exact ⟨rfl, rfl⟩))
    (fun os started H enc _ => lifted os started H enc)
end Go.Proofs.YtiibdlifdneagaaA.LApproachSorted
namespace Go.Proofs.Ytiibdlifdneagaa
/-- The statement, under a short name, for the claim. -/
theorem approachSorted_holds : Rows.ApproachSortedSaid := Go.Proofs.YtiibdlifdneagaaA.LApproachSorted.over
end Go.Proofs.Ytiibdlifdneagaa
#print axioms Go.Proofs.Ytiibdlifdneagaa.approachSorted_holds
