/-
  No cell of these rows narrows 'for every input' (looked for: loops, veiled, ifaces, maps, wideKeys, modest, calm, conditions, laid).
  DERIVED. THE GIVEN ROWS OF THIS SEAT. 2 by the template 'for every input the law returns true; each argument reads behind the call as it read before'; 0 by the template 'total and deterministic' (their statements: YtaegecnjimbfbaaTotals.lean).
  GIVEN WITH THE SEED: the statements are not yours to turn. If you find one false, say at which input.
  Laid BY PROGRAM, IN A SANDBOX (cutbox-rows.mjs): the forced cells as the released guide's own fill.sh prints them over the translation c85d752d62b56da7… (all of the seat's roots in one cut). By AI agents, Wed Nov 11 2026. No macro, syntax, notation, axiom, sorry.
-/
import Derived.Test.YtaegecnjimbfbaaChecked
import GoSem.Claim
import GoSem.ClaimJoined
import GoSem.ClaimMapViews
import Derived.JoinedTies
import Derived.KernelRfl
namespace Go.Proofs.Ytaegecnjimbfbaa
/- THE CELL 'sum', in the pinned program and in every row, IS THE sha256 OF THE DUMP (.gsa) THAT YtaegecnjimbfbaaProg.lean LOADS. Nothing in Lean hashes anything: it is a label: what it is worth is what the hold of that sum in a sandbox is worth. -/
noncomputable def Try.pinned : Pinned := { name := "ytaegecnjimbfbaa", sum := "c85d752d62b56da798edb8512206b75a695a87ee6273e7bb9947b7b88c40a1c8", checked := Try.checked }
namespace Rows
def none {H : Type} : Left H := { results := [], args := [] }

/-- 'skywaykeep4.ContactOne': WHATEVER THE INPUT: true; the input reads as it did. -/
def contactOneSpec : ChangeSpec := { name := "contactOne", fn := fun _ => fun
  | [d] => { results := [.lit (.bool true)], args := [d] }
  | _ => none }
def contactOneRow : OpenClaim := { program := "ytaegecnjimbfbaa", sum := "c85d752d62b56da798edb8512206b75a695a87ee6273e7bb9947b7b88c40a1c8", func := "skyway/skywaykeep4.ContactOne", spec := "contactOne", inPlace := ["internal/bytealg.abigen_runtime_cmpstring", "slices.overlaps[skyway/api.ContactState]"], unfollowed := true, recurses := true, apart := false }
def ContactOneSaid : Prop := contactOneRow.holds Try.pinned (OpenSpec.ofChange contactOneSpec)

/-- ITS FALSE NEIGHBOUR: 'it returns false'. Refute it at one input. -/
def contactOneWrong : ChangeSpec := { name := "contactOne", fn := fun _ => fun
  | [d] => { results := [.lit (.bool false)], args := [d] }
  | _ => none }
def ContactOneWrongFalsely : Prop := contactOneRow.holds Try.pinned (OpenSpec.ofChange contactOneWrong)

/-- 'skywaykeep4.ContactHeard': WHATEVER THE INPUT: true; the input reads as it did. -/
def contactHeardSpec : ChangeSpec := { name := "contactHeard", fn := fun _ => fun
  | [d1, d2, d3, d4] => { results := [.lit (.bool true)], args := [d1, d2, d3, d4] }
  | _ => none }
def contactHeardRow : OpenClaim := { program := "ytaegecnjimbfbaa", sum := "c85d752d62b56da798edb8512206b75a695a87ee6273e7bb9947b7b88c40a1c8", func := "skyway/skywaykeep4.ContactHeard", spec := "contactHeard", inPlace := ["internal/bytealg.abigen_runtime_cmpstring", "slices.overlaps[skyway/api.ContactState]"], unfollowed := true, recurses := true, apart := false }
def ContactHeardSaid : Prop := contactHeardRow.holds Try.pinned (OpenSpec.ofChange contactHeardSpec)

/-- ITS FALSE NEIGHBOUR: 'it returns false'. Refute it at one input. -/
def contactHeardWrong : ChangeSpec := { name := "contactHeard", fn := fun _ => fun
  | [d1, d2, d3, d4] => { results := [.lit (.bool false)], args := [d1, d2, d3, d4] }
  | _ => none }
def ContactHeardWrongFalsely : Prop := contactHeardRow.holds Try.pinned (OpenSpec.ofChange contactHeardWrong)

/- THE SECOND FORM. 'bulk': how many values and letters a reading holds, each counted each time it is reached (what is shared counts as often as it is met; a slice's spare places count too). A statement '..UptoSaid' is the law's where the arguments, and the package variables that the reading takes, are together of bulk at most 1048576: NARROWER than '..Said'. Prove '..Said' where nothing that the law and all that it calls make is longer than what came in: it says more and counts as full. Else prove '..UptoSaid'. A law counts once. -/
mutual
def uptoBulk {H : Type} : DataW H → Nat
  | .lit (.string bytes) => bytes.length + 1
  | .lit _ => 1
  | .nil => 1
  | .ptr d => uptoBulk d + 1
  | .slice elems spare => uptoBulkAll elems + uptoBulkAll spare + 1
  | .agg parts => uptoBulkAll parts + 1
  | .iface _ d => uptoBulk d + 1
  | .map entries => uptoBulkEntries entries + 1
  | .held _ => 1
def uptoBulkAll {H : Type} : List (DataW H) → Nat
  | [] => 0
  | d :: r => uptoBulk d + uptoBulkAll r
def uptoBulkEntries {H : Type} : List (Lit × DataW H) → Nat
  | [] => 0
  | x :: r => uptoBulkEntry x + uptoBulkEntries r
def uptoBulkEntry {H : Type} : Lit × DataW H → Nat
  | (.string bytes, d) => bytes.length + uptoBulk d + 1
  | (_, d) => uptoBulk d + 1
 end
def uptoSmall : (H : Type) → List (DataW H) → Bool := fun _ ds => decide (uptoBulkAll ds ≤ 1048576)
def OpenSpec.upto (s : _root_.Go.ChangeSpec) : _root_.Go.OpenSpec := { _root_.Go.OpenSpec.ofChange s with cond := some uptoSmall }

/-- 'skywaykeep4.ContactOne', WHERE WHAT IT READS IS OF BULK AT MOST 1048576: true; the input reads as it did. -/
def contactOneUptoRow : OpenClaim := { program := "ytaegecnjimbfbaa", sum := "c85d752d62b56da798edb8512206b75a695a87ee6273e7bb9947b7b88c40a1c8", func := "skyway/skywaykeep4.ContactOne", spec := "contactOne", inPlace := ["internal/bytealg.abigen_runtime_cmpstring", "slices.overlaps[skyway/api.ContactState]"], unfollowed := true, recurses := true, apart := false, narrowed := true }
def ContactOneUptoSaid : Prop := contactOneUptoRow.holds Try.pinned (OpenSpec.upto contactOneSpec)

/-- 'skywaykeep4.ContactHeard', WHERE WHAT IT READS IS OF BULK AT MOST 1048576: true; the input reads as it did. -/
def contactHeardUptoRow : OpenClaim := { program := "ytaegecnjimbfbaa", sum := "c85d752d62b56da798edb8512206b75a695a87ee6273e7bb9947b7b88c40a1c8", func := "skyway/skywaykeep4.ContactHeard", spec := "contactHeard", inPlace := ["internal/bytealg.abigen_runtime_cmpstring", "slices.overlaps[skyway/api.ContactState]"], unfollowed := true, recurses := true, apart := false, narrowed := true }
def ContactHeardUptoSaid : Prop := contactHeardUptoRow.holds Try.pinned (OpenSpec.upto contactHeardSpec)

end Rows
end Go.Proofs.Ytaegecnjimbfbaa
