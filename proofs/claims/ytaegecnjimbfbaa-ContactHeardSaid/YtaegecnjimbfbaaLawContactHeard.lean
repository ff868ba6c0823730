/- ContactHeard: for every list of calls and every three numbers the law is true. No condition. -/
import Derived.Test.YtaegecnjimbfbaaRows
import Derived.Test.YtaegecnjimbfbaaAbs9
import Derived.Test.YtaegecnjimbfbaaWalkD
import Derived.ProofKit
set_option linter.unusedVariables false
set_option linter.unusedSimpArgs false
namespace Go.Proofs.YtaegecnjimbfbaaA.LContactHeard
open Go
theorem shp22 : shape P 8 22 = some (.sl (.cons .str (.cons (.int .i64) (.cons (.int .i64) .unit))) 3 32) := by kernel_rfl
theorem shp3 : shape P 8 3 = some (.int .i64) := by kernel_rfl
theorem contract : ∀ ls, Tys [(.sl (.cons .str (.cons (.int .i64) (.cons (.int .i64) .unit))) 3 32), (.int .i64), (.int .i64), (.int .i64)] ls → AC P 4 (argsOf [(.sl (.cons .str (.cons (.int .i64) (.cons (.int .i64) .unit))) 3 32), (.int .i64), (.int .i64), (.int .i64)] ls) [] (fun r _ => r = .d (.bool true)) := by
  intro ls h
  obtain ⟨l1, _, rfl, h1, l2, _, rfl, ⟨a, rfl, _⟩, l3, _, rfl, ⟨g, rfl, _⟩, l4, _, rfl, ⟨d, rfl, _⟩, rfl⟩ := h
  obtain ⟨l, rfl, hL⟩ := Ty.rowsP Ct.enc (fun x : Ct => x.call.size ≤ 140737488351232) h1 fun r hr => by
    obtain ⟨q1, _, rfl, ⟨s, rfl, hs⟩, q2, _, rfl, ⟨f, rfl, _⟩, q3, _, rfl, ⟨t, rfl, _⟩, rfl⟩ := hr; exact ⟨⟨s, f, t⟩, rfl, hs⟩
  have hR : reachBytes = 140737488351232 := rfl
  exact heard_c l a g d [] (by omega) hL.2
theorem own : ownKnob Go.Proofs.Try.prog.godebug = none := by kernel_rfl
set_option maxRecDepth 100000 in
theorem lifted (os : Os) (started : os.Started) (H : Type) (enc : TypeId × Value → H) :
    ReturnsInHanded {} Go.Proofs.Try.checked os 4 .any (Go.Proofs.Ytaegecnjimbfbaa.Rows.contactHeardSpec.pre6 enc Go.Proofs.Try.prog Go.Proofs.Try.f4 Go.Proofs.Ytaegecnjimbfbaa.Rows.contactHeardRow.domain false) (Go.Proofs.Ytaegecnjimbfbaa.Rows.contactHeardSpec.post enc Go.Proofs.Try.prog Go.Proofs.Try.f4 false true false false) :=
  law (C := Go.Proofs.Try.checked) 8 [(.sl (.cons .str (.cons (.int .i64) (.cons (.int .i64) .unit))) 3 32), (.int .i64), (.int .i64), (.int .i64)] own started (by kernel_rfl) Go.Proofs.Try.func4
    (ChangeSpec.witness6 (enc := enc) (C := Go.Proofs.Try.checked) false ⟨#[], #[.slice none 0 0, .int .i64 0, .int .i64 0, .int .i64 0], []⟩ 8 (by kernel_rfl) (by kernel_rfl) (by kernel_rfl) (by kernel_rfl))
    (by kernel_rfl) (by kernel_rfl) 4 Go.Proofs.Try.underlying4 (by kernel_rfl) rfl (by kernel_rfl)
    (fun ds h => match ds, h with | [d0, d1, d2, d3], _ => rfl) contract
theorem over : Go.Proofs.Ytaegecnjimbfbaa.Rows.contactHeardRow.holds Go.Proofs.Ytaegecnjimbfbaa.Try.pinned (OpenSpec.ofChange Go.Proofs.Ytaegecnjimbfbaa.Rows.contactHeardSpec) :=
  OpenClaim.holds_of_wide 4 Go.Proofs.Try.f4 rfl rfl rfl rfl rfl rfl rfl ⟨rfl, rfl, rfl, rfl, rfl⟩ rfl rfl rfl rfl rfl (by kernel_rfl) Go.Proofs.Try.func4 (by kernel_rfl)
    (of_decide_eq_true (by kernel_rfl)) (by unfold Func.isWrapper; first | (rw [if_pos (by decide +kernel)]; kernel_rfl) | (rw [if_neg (by decide +kernel)]; exact ⟨rfl, rfl⟩))
    (fun os started H enc _ => lifted os started H enc)
end Go.Proofs.YtaegecnjimbfbaaA.LContactHeard
namespace Go.Proofs.Ytaegecnjimbfbaa
/-- The statement, under a short name, for the claim. -/
theorem contactHeard_holds : Rows.ContactHeardSaid := Go.Proofs.YtaegecnjimbfbaaA.LContactHeard.over
end Go.Proofs.Ytaegecnjimbfbaa
#print axioms Go.Proofs.Ytaegecnjimbfbaa.contactHeard_holds
