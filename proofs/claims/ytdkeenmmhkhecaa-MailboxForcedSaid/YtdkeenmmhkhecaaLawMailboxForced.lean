/- MailboxForced: for every size, list and priority the law is true. No condition. -/
import Derived.Test.YtdkeenmmhkhecaaRows
import Derived.Test.YtdkeenmmhkhecaaAbs9
import Derived.Test.YtdkeenmmhkhecaaWalkD
import Derived.ProofKit
set_option linter.unusedVariables false
set_option linter.unusedSimpArgs false
namespace Go.Proofs.YtdkeenmmhkhecaaA.LMailboxForced
open Go
theorem shp22 : shape P 8 22 = some (.sl (.int .i64) 1 8) := by kernel_rfl
theorem shp3 : shape P 8 3 = some (.int .i64) := by kernel_rfl
theorem contract : ∀ ls, Tys [(.int .i64), (.sl (.int .i64) 1 8), (.int .i64)] ls → AC P 5 (argsOf [(.int .i64), (.sl (.int .i64) 1 8), (.int .i64)] ls) [] (fun r _ => r = .d (.bool true)) := by
  intro ls h
  obtain ⟨l1, _, rfl, h1, l2, _, rfl, h2, l3, _, rfl, h3, rfl⟩ := h
  obtain ⟨v, rfl, _⟩ := h1
  obtain ⟨p, rfl, _⟩ := h3
  obtain ⟨l, rfl, hL⟩ := Ty.rows nE h2 fun r hr => by obtain ⟨n, rfl, _⟩ := hr; exact ⟨n, rfl⟩
  have hR : reachBytes = 140737488351232 := rfl
  exact (forced_c v l p [] (by omega)).mono fun r _ hr => hr
theorem own : ownKnob Go.Proofs.Try.prog.godebug = none := by kernel_rfl
set_option maxRecDepth 100000 in
theorem lifted (os : Os) (started : os.Started) (H : Type) (enc : TypeId × Value → H) :
    ReturnsInHanded {} Go.Proofs.Try.checked os 5 .any (Go.Proofs.Ytdkeenmmhkhecaa.Rows.mailboxForcedSpec.pre6 enc Go.Proofs.Try.prog Go.Proofs.Try.f5 Go.Proofs.Ytdkeenmmhkhecaa.Rows.mailboxForcedRow.domain false) (Go.Proofs.Ytdkeenmmhkhecaa.Rows.mailboxForcedSpec.post enc Go.Proofs.Try.prog Go.Proofs.Try.f5 false true false false) :=
  law (C := Go.Proofs.Try.checked) 8 [(.int .i64), (.sl (.int .i64) 1 8), (.int .i64)] own started (by kernel_rfl) Go.Proofs.Try.func5
    (ChangeSpec.witness6 (enc := enc) (C := Go.Proofs.Try.checked) false ⟨#[], #[.int .i64 0, .slice none 0 0, .int .i64 0], []⟩ 8 (by kernel_rfl) (by kernel_rfl) (by kernel_rfl) (by kernel_rfl))
    (by kernel_rfl) (by kernel_rfl) 4 Go.Proofs.Try.underlying4 (by kernel_rfl) rfl (by kernel_rfl)
    (fun ds h => match ds, h with | [d0, d1, d2], _ => rfl) contract
theorem over : Go.Proofs.Ytdkeenmmhkhecaa.Rows.mailboxForcedRow.holds Go.Proofs.Ytdkeenmmhkhecaa.Try.pinned (OpenSpec.ofChange Go.Proofs.Ytdkeenmmhkhecaa.Rows.mailboxForcedSpec) :=
  OpenClaim.holds_of_wide 5 Go.Proofs.Try.f5 rfl rfl rfl rfl rfl rfl rfl ⟨rfl, rfl, rfl, rfl, rfl⟩ rfl rfl rfl rfl rfl (by kernel_rfl) Go.Proofs.Try.func5 (by kernel_rfl)
    (of_decide_eq_true (by kernel_rfl)) (by unfold Func.isWrapper; first | (rw [if_pos (by decide +kernel)]; kernel_rfl) | (rw [if_neg (by decide +kernel)]; exact ⟨rfl, rfl⟩))
    (fun os started H enc _ => lifted os started H enc)
end Go.Proofs.YtdkeenmmhkhecaaA.LMailboxForced
namespace Go.Proofs.Ytdkeenmmhkhecaa
/-- The statement, under a short name, for the claim. -/
theorem mailboxForced_holds : Rows.MailboxForcedSaid := Go.Proofs.YtdkeenmmhkhecaaA.LMailboxForced.over
end Go.Proofs.Ytdkeenmmhkhecaa
#print axioms Go.Proofs.Ytdkeenmmhkhecaa.mailboxForced_holds
