/-
  No cell of these rows narrows 'for every input' (looked for: loops, veiled, ifaces, maps, wideKeys, modest, calm, conditions, laid).
  DERIVED. THE GIVEN ROWS OF THIS SEAT. 4 by the template 'for every input the law returns true; each argument reads behind the call as it read before'; 0 by the template 'total and deterministic' (their statements: YtcicechobemnaaaTotals.lean).
  GIVEN WITH THE SEED: the statements are not yours to turn. If you find one false, say at which input.
  Laid BY PROGRAM, IN A SANDBOX (cutbox-rows.mjs): the forced cells as the released guide's own fill.sh prints them over the translation 5a9afbf420c7e99d… (all of the seat's roots in one cut). By AI agents, Wed Nov 11 2026. No macro, syntax, notation, axiom, sorry.
-/
import Derived.Test.YtcicechobemnaaaChecked
import GoSem.Claim
import GoSem.ClaimJoined
import GoSem.ClaimMapViews
import Derived.JoinedTies
import Derived.KernelRfl
namespace Go.Proofs.Ytcicechobemnaaa
/- THE CELL 'sum', in the pinned program and in every row, IS THE sha256 OF THE DUMP (.gsa) THAT YtcicechobemnaaaProg.lean LOADS. Nothing in Lean hashes anything: it is a label: what it is worth is what the hold of that sum in a sandbox is worth. -/
noncomputable def Try.pinned : Pinned := { name := "ytcicechobemnaaa", sum := "5a9afbf420c7e99d32b168b5e7f4b66fb44386f0a10e247cd9f60916b512347c", checked := Try.checked }
namespace Rows
def none {H : Type} : Left H := { results := [], args := [] }

/-- 'skywaykeep4.StandbyKeeps': WHATEVER THE INPUT: true; the input reads as it did. -/
def standbyKeepsSpec : ChangeSpec := { name := "standbyKeeps", fn := fun _ => fun
  | [d] => { results := [.lit (.bool true)], args := [d] }
  | _ => none }
def standbyKeepsRow : OpenClaim := { program := "ytcicechobemnaaa", sum := "5a9afbf420c7e99d32b168b5e7f4b66fb44386f0a10e247cd9f60916b512347c", func := "skyway/skywaykeep4.StandbyKeeps", spec := "standbyKeeps", unfollowed := true, recurses := true, apart := false }
def StandbyKeepsSaid : Prop := standbyKeepsRow.holds Try.pinned (OpenSpec.ofChange standbyKeepsSpec)

/-- ITS FALSE NEIGHBOUR: 'it returns false'. Refute it at one input. -/
def standbyKeepsWrong : ChangeSpec := { name := "standbyKeeps", fn := fun _ => fun
  | [d] => { results := [.lit (.bool false)], args := [d] }
  | _ => none }
def StandbyKeepsWrongFalsely : Prop := standbyKeepsRow.holds Try.pinned (OpenSpec.ofChange standbyKeepsWrong)

/-- 'skywaykeep4.StandbyFollows': WHATEVER THE INPUT: true; the input reads as it did. -/
def standbyFollowsSpec : ChangeSpec := { name := "standbyFollows", fn := fun _ => fun
  | [d] => { results := [.lit (.bool true)], args := [d] }
  | _ => none }
def standbyFollowsRow : OpenClaim := { program := "ytcicechobemnaaa", sum := "5a9afbf420c7e99d32b168b5e7f4b66fb44386f0a10e247cd9f60916b512347c", func := "skyway/skywaykeep4.StandbyFollows", spec := "standbyFollows", unfollowed := true, recurses := true, apart := false }
def StandbyFollowsSaid : Prop := standbyFollowsRow.holds Try.pinned (OpenSpec.ofChange standbyFollowsSpec)

/-- ITS FALSE NEIGHBOUR: 'it returns false'. Refute it at one input. -/
def standbyFollowsWrong : ChangeSpec := { name := "standbyFollows", fn := fun _ => fun
  | [d] => { results := [.lit (.bool false)], args := [d] }
  | _ => none }
def StandbyFollowsWrongFalsely : Prop := standbyFollowsRow.holds Try.pinned (OpenSpec.ofChange standbyFollowsWrong)

/-- 'skywaykeep4.StandbySettles': WHATEVER THE INPUT: true; the input reads as it did. -/
def standbySettlesSpec : ChangeSpec := { name := "standbySettles", fn := fun _ => fun
  | [d] => { results := [.lit (.bool true)], args := [d] }
  | _ => none }
def standbySettlesRow : OpenClaim := { program := "ytcicechobemnaaa", sum := "5a9afbf420c7e99d32b168b5e7f4b66fb44386f0a10e247cd9f60916b512347c", func := "skyway/skywaykeep4.StandbySettles", spec := "standbySettles", unfollowed := true, recurses := true, apart := false }
def StandbySettlesSaid : Prop := standbySettlesRow.holds Try.pinned (OpenSpec.ofChange standbySettlesSpec)

/-- ITS FALSE NEIGHBOUR: 'it returns false'. Refute it at one input. -/
def standbySettlesWrong : ChangeSpec := { name := "standbySettles", fn := fun _ => fun
  | [d] => { results := [.lit (.bool false)], args := [d] }
  | _ => none }
def StandbySettlesWrongFalsely : Prop := standbySettlesRow.holds Try.pinned (OpenSpec.ofChange standbySettlesWrong)

/-- 'skywaykeep4.StandbyOld': WHATEVER THE INPUT: true; the input reads as it did. -/
def standbyOldSpec : ChangeSpec := { name := "standbyOld", fn := fun _ => fun
  | [d] => { results := [.lit (.bool true)], args := [d] }
  | _ => none }
def standbyOldRow : OpenClaim := { program := "ytcicechobemnaaa", sum := "5a9afbf420c7e99d32b168b5e7f4b66fb44386f0a10e247cd9f60916b512347c", func := "skyway/skywaykeep4.StandbyOld", spec := "standbyOld", unfollowed := true, recurses := true, apart := false }
def StandbyOldSaid : Prop := standbyOldRow.holds Try.pinned (OpenSpec.ofChange standbyOldSpec)

/-- ITS FALSE NEIGHBOUR: 'it returns false'. Refute it at one input. -/
def standbyOldWrong : ChangeSpec := { name := "standbyOld", fn := fun _ => fun
  | [d] => { results := [.lit (.bool false)], args := [d] }
  | _ => none }
def StandbyOldWrongFalsely : Prop := standbyOldRow.holds Try.pinned (OpenSpec.ofChange standbyOldWrong)

/- THE SECOND FORM. 'bulk': how many values and letters a reading holds, each counted each time it is reached (what is shared counts as often as it is met; a slice's spare places count too). A statement '..UptoSaid' is the law's where the arguments, and the package variables that the reading takes, are together of bulk at most 1048576: NARROWER than '..Said'. Prove '..Said' where nothing that the law and all that it calls make is longer than what came in: it says more and counts as full. Else prove '..UptoSaid'. A law counts once. -/
mutual
def uptoBulk {H : Type} : DataW H → Nat
  | .lit (.string bytes) => bytes.length + 1
  | .lit _ => 1
  | .nil => 1
  | .ptr d => uptoBulk d + 1
  | .slice elems spare => uptoBulkAll elems + uptoBulkAll spare + 1
  | .agg parts => uptoBulkAll parts + 1
  | .iface _ d => uptoBulk d + 1
  | .map entries => uptoBulkEntries entries + 1
  | .held _ => 1
def uptoBulkAll {H : Type} : List (DataW H) → Nat
  | [] => 0
  | d :: r => uptoBulk d + uptoBulkAll r
def uptoBulkEntries {H : Type} : List (Lit × DataW H) → Nat
  | [] => 0
  | x :: r => uptoBulkEntry x + uptoBulkEntries r
def uptoBulkEntry {H : Type} : Lit × DataW H → Nat
  | (.string bytes, d) => bytes.length + uptoBulk d + 1
  | (_, d) => uptoBulk d + 1
 end
def uptoSmall : (H : Type) → List (DataW H) → Bool := fun _ ds => decide (uptoBulkAll ds ≤ 1048576)
def OpenSpec.upto (s : _root_.Go.ChangeSpec) : _root_.Go.OpenSpec := { _root_.Go.OpenSpec.ofChange s with cond := some uptoSmall }

/-- 'skywaykeep4.StandbyKeeps', WHERE WHAT IT READS IS OF BULK AT MOST 1048576: true; the input reads as it did. -/
def standbyKeepsUptoRow : OpenClaim := { program := "ytcicechobemnaaa", sum := "5a9afbf420c7e99d32b168b5e7f4b66fb44386f0a10e247cd9f60916b512347c", func := "skyway/skywaykeep4.StandbyKeeps", spec := "standbyKeeps", unfollowed := true, recurses := true, apart := false, narrowed := true }
def StandbyKeepsUptoSaid : Prop := standbyKeepsUptoRow.holds Try.pinned (OpenSpec.upto standbyKeepsSpec)

/-- 'skywaykeep4.StandbyFollows', WHERE WHAT IT READS IS OF BULK AT MOST 1048576: true; the input reads as it did. -/
def standbyFollowsUptoRow : OpenClaim := { program := "ytcicechobemnaaa", sum := "5a9afbf420c7e99d32b168b5e7f4b66fb44386f0a10e247cd9f60916b512347c", func := "skyway/skywaykeep4.StandbyFollows", spec := "standbyFollows", unfollowed := true, recurses := true, apart := false, narrowed := true }
def StandbyFollowsUptoSaid : Prop := standbyFollowsUptoRow.holds Try.pinned (OpenSpec.upto standbyFollowsSpec)

/-- 'skywaykeep4.StandbySettles', WHERE WHAT IT READS IS OF BULK AT MOST 1048576: true; the input reads as it did. -/
def standbySettlesUptoRow : OpenClaim := { program := "ytcicechobemnaaa", sum := "5a9afbf420c7e99d32b168b5e7f4b66fb44386f0a10e247cd9f60916b512347c", func := "skyway/skywaykeep4.StandbySettles", spec := "standbySettles", unfollowed := true, recurses := true, apart := false, narrowed := true }
def StandbySettlesUptoSaid : Prop := standbySettlesUptoRow.holds Try.pinned (OpenSpec.upto standbySettlesSpec)

/-- 'skywaykeep4.StandbyOld', WHERE WHAT IT READS IS OF BULK AT MOST 1048576: true; the input reads as it did. -/
def standbyOldUptoRow : OpenClaim := { program := "ytcicechobemnaaa", sum := "5a9afbf420c7e99d32b168b5e7f4b66fb44386f0a10e247cd9f60916b512347c", func := "skyway/skywaykeep4.StandbyOld", spec := "standbyOld", unfollowed := true, recurses := true, apart := false, narrowed := true }
def StandbyOldUptoSaid : Prop := standbyOldUptoRow.holds Try.pinned (OpenSpec.upto standbyOldSpec)

end Rows
end Go.Proofs.Ytcicechobemnaaa
