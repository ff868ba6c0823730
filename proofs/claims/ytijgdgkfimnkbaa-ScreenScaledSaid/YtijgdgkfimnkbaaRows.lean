/-
  No cell of these rows narrows 'for every input' (looked for: loops, veiled, ifaces, maps, wideKeys, modest, calm, conditions, laid).
  DERIVED. THE GIVEN ROWS OF THIS SEAT. 5 by the template 'for every input the law returns true; each argument reads behind the call as it read before'; 0 by the template 'total and deterministic' (their statements: YtijgdgkfimnkbaaTotals.lean).
  GIVEN WITH THE SEED: the statements are not yours to turn. If you find one false, say at which input.
  Laid BY PROGRAM, IN A SANDBOX (cutbox-rows.mjs): the forced cells as the released guide's own fill.sh prints them over the translation 58c9f27c1f18581d… (all of the seat's roots in one cut). By AI agents, Wed Nov 11 2026. No macro, syntax, notation, axiom, sorry.
-/
import Derived.Test.YtijgdgkfimnkbaaChecked
import GoSem.Claim
import GoSem.ClaimJoined
import GoSem.ClaimMapViews
import Derived.JoinedTies
import Derived.KernelRfl
namespace Go.Proofs.Ytijgdgkfimnkbaa
/- THE CELL 'sum', in the pinned program and in every row, IS THE sha256 OF THE DUMP (.gsa) THAT YtijgdgkfimnkbaaProg.lean LOADS. Nothing in Lean hashes anything: it is a label: what it is worth is what the hold of that sum in a sandbox is worth. -/
noncomputable def Try.pinned : Pinned := { name := "ytijgdgkfimnkbaa", sum := "58c9f27c1f18581dcbb1380c2837086474b34b7c92bf746e4ed72756f7fe2e8f", checked := Try.checked }
namespace Rows
def none {H : Type} : Left H := { results := [], args := [] }

/-- 'skywaykeep4.ScreenScaled': WHATEVER THE INPUT: true; the input reads as it did. -/
def screenScaledSpec : ChangeSpec := { name := "screenScaled", fn := fun _ => fun
  | [d1, d2, d3] => { results := [.lit (.bool true)], args := [d1, d2, d3] }
  | _ => none }
def screenScaledRow : OpenClaim := { program := "ytijgdgkfimnkbaa", sum := "58c9f27c1f18581dcbb1380c2837086474b34b7c92bf746e4ed72756f7fe2e8f", func := "skyway/skywaykeep4.ScreenScaled", spec := "screenScaled", unfollowed := true, recurses := true, apart := false }
def ScreenScaledSaid : Prop := screenScaledRow.holds Try.pinned (OpenSpec.ofChange screenScaledSpec)

/-- ITS FALSE NEIGHBOUR: 'it returns false'. Refute it at one input. -/
def screenScaledWrong : ChangeSpec := { name := "screenScaled", fn := fun _ => fun
  | [d1, d2, d3] => { results := [.lit (.bool false)], args := [d1, d2, d3] }
  | _ => none }
def ScreenScaledWrongFalsely : Prop := screenScaledRow.holds Try.pinned (OpenSpec.ofChange screenScaledWrong)

/-- 'skywaykeep4.ScreenShifted': WHATEVER THE INPUT: true; the input reads as it did. -/
def screenShiftedSpec : ChangeSpec := { name := "screenShifted", fn := fun _ => fun
  | [d1, d2, d3, d4] => { results := [.lit (.bool true)], args := [d1, d2, d3, d4] }
  | _ => none }
def screenShiftedRow : OpenClaim := { program := "ytijgdgkfimnkbaa", sum := "58c9f27c1f18581dcbb1380c2837086474b34b7c92bf746e4ed72756f7fe2e8f", func := "skyway/skywaykeep4.ScreenShifted", spec := "screenShifted", unfollowed := true, recurses := true, apart := false }
def ScreenShiftedSaid : Prop := screenShiftedRow.holds Try.pinned (OpenSpec.ofChange screenShiftedSpec)

/-- ITS FALSE NEIGHBOUR: 'it returns false'. Refute it at one input. -/
def screenShiftedWrong : ChangeSpec := { name := "screenShifted", fn := fun _ => fun
  | [d1, d2, d3, d4] => { results := [.lit (.bool false)], args := [d1, d2, d3, d4] }
  | _ => none }
def ScreenShiftedWrongFalsely : Prop := screenShiftedRow.holds Try.pinned (OpenSpec.ofChange screenShiftedWrong)

/-- 'skywaykeep4.ScreenSwapped': WHATEVER THE INPUT: true; the input reads as it did. -/
def screenSwappedSpec : ChangeSpec := { name := "screenSwapped", fn := fun _ => fun
  | [d1, d2] => { results := [.lit (.bool true)], args := [d1, d2] }
  | _ => none }
def screenSwappedRow : OpenClaim := { program := "ytijgdgkfimnkbaa", sum := "58c9f27c1f18581dcbb1380c2837086474b34b7c92bf746e4ed72756f7fe2e8f", func := "skyway/skywaykeep4.ScreenSwapped", spec := "screenSwapped", unfollowed := true, recurses := true, apart := false }
def ScreenSwappedSaid : Prop := screenSwappedRow.holds Try.pinned (OpenSpec.ofChange screenSwappedSpec)

/-- ITS FALSE NEIGHBOUR: 'it returns false'. Refute it at one input. -/
def screenSwappedWrong : ChangeSpec := { name := "screenSwapped", fn := fun _ => fun
  | [d1, d2] => { results := [.lit (.bool false)], args := [d1, d2] }
  | _ => none }
def ScreenSwappedWrongFalsely : Prop := screenSwappedRow.holds Try.pinned (OpenSpec.ofChange screenSwappedWrong)

/-- 'skywaykeep4.ScreenMoved': WHATEVER THE INPUT: true; the input reads as it did. -/
def screenMovedSpec : ChangeSpec := { name := "screenMoved", fn := fun _ => fun
  | [d1, d2, d3] => { results := [.lit (.bool true)], args := [d1, d2, d3] }
  | _ => none }
def screenMovedRow : OpenClaim := { program := "ytijgdgkfimnkbaa", sum := "58c9f27c1f18581dcbb1380c2837086474b34b7c92bf746e4ed72756f7fe2e8f", func := "skyway/skywaykeep4.ScreenMoved", spec := "screenMoved", unfollowed := true, recurses := true, apart := false }
def ScreenMovedSaid : Prop := screenMovedRow.holds Try.pinned (OpenSpec.ofChange screenMovedSpec)

/-- ITS FALSE NEIGHBOUR: 'it returns false'. Refute it at one input. -/
def screenMovedWrong : ChangeSpec := { name := "screenMoved", fn := fun _ => fun
  | [d1, d2, d3] => { results := [.lit (.bool false)], args := [d1, d2, d3] }
  | _ => none }
def ScreenMovedWrongFalsely : Prop := screenMovedRow.holds Try.pinned (OpenSpec.ofChange screenMovedWrong)

/-- 'skywaykeep4.ScreenShows': WHATEVER THE INPUT: true; the input reads as it did. -/
def screenShowsSpec : ChangeSpec := { name := "screenShows", fn := fun _ => fun
  | [d1, d2] => { results := [.lit (.bool true)], args := [d1, d2] }
  | _ => none }
def screenShowsRow : OpenClaim := { program := "ytijgdgkfimnkbaa", sum := "58c9f27c1f18581dcbb1380c2837086474b34b7c92bf746e4ed72756f7fe2e8f", func := "skyway/skywaykeep4.ScreenShows", spec := "screenShows", inPlace := ["internal/abi.NoEscape", "internal/bytealg.MakeNoZero", "internal/bytealg.CountString", "internal/bytealg.IndexByteString", "internal/bytealg.IndexString"], unfollowed := true, recurses := true, named := ["internal/bytealg.MaxLen"], apart := false }
def ScreenShowsSaid : Prop := screenShowsRow.holds Try.pinned (OpenSpec.ofChange screenShowsSpec)

/-- ITS FALSE NEIGHBOUR: 'it returns false'. Refute it at one input. -/
def screenShowsWrong : ChangeSpec := { name := "screenShows", fn := fun _ => fun
  | [d1, d2] => { results := [.lit (.bool false)], args := [d1, d2] }
  | _ => none }
def ScreenShowsWrongFalsely : Prop := screenShowsRow.holds Try.pinned (OpenSpec.ofChange screenShowsWrong)

/- THE SECOND FORM. 'bulk': how many values and letters a reading holds, each counted each time it is reached (what is shared counts as often as it is met; a slice's spare places count too). A statement '..UptoSaid' is the law's where the arguments, and the package variables that the reading takes, are together of bulk at most 1048576: NARROWER than '..Said'. Prove '..Said' where nothing that the law and all that it calls make is longer than what came in: it says more and counts as full. Else prove '..UptoSaid'. A law counts once. -/
mutual
def uptoBulk {H : Type} : DataW H → Nat
  | .lit (.string bytes) => bytes.length + 1
  | .lit _ => 1
  | .nil => 1
  | .ptr d => uptoBulk d + 1
  | .slice elems spare => uptoBulkAll elems + uptoBulkAll spare + 1
  | .agg parts => uptoBulkAll parts + 1
  | .iface _ d => uptoBulk d + 1
  | .map entries => uptoBulkEntries entries + 1
  | .held _ => 1
def uptoBulkAll {H : Type} : List (DataW H) → Nat
  | [] => 0
  | d :: r => uptoBulk d + uptoBulkAll r
def uptoBulkEntries {H : Type} : List (Lit × DataW H) → Nat
  | [] => 0
  | x :: r => uptoBulkEntry x + uptoBulkEntries r
def uptoBulkEntry {H : Type} : Lit × DataW H → Nat
  | (.string bytes, d) => bytes.length + uptoBulk d + 1
  | (_, d) => uptoBulk d + 1
 end
def uptoSmall : (H : Type) → List (DataW H) → Bool := fun _ ds => decide (uptoBulkAll ds ≤ 1048576)
def OpenSpec.upto (s : _root_.Go.ChangeSpec) : _root_.Go.OpenSpec := { _root_.Go.OpenSpec.ofChange s with cond := some uptoSmall }

/-- 'skywaykeep4.ScreenScaled', WHERE WHAT IT READS IS OF BULK AT MOST 1048576: true; the input reads as it did. -/
def screenScaledUptoRow : OpenClaim := { program := "ytijgdgkfimnkbaa", sum := "58c9f27c1f18581dcbb1380c2837086474b34b7c92bf746e4ed72756f7fe2e8f", func := "skyway/skywaykeep4.ScreenScaled", spec := "screenScaled", unfollowed := true, recurses := true, apart := false, narrowed := true }
def ScreenScaledUptoSaid : Prop := screenScaledUptoRow.holds Try.pinned (OpenSpec.upto screenScaledSpec)

/-- 'skywaykeep4.ScreenShifted', WHERE WHAT IT READS IS OF BULK AT MOST 1048576: true; the input reads as it did. -/
def screenShiftedUptoRow : OpenClaim := { program := "ytijgdgkfimnkbaa", sum := "58c9f27c1f18581dcbb1380c2837086474b34b7c92bf746e4ed72756f7fe2e8f", func := "skyway/skywaykeep4.ScreenShifted", spec := "screenShifted", unfollowed := true, recurses := true, apart := false, narrowed := true }
def ScreenShiftedUptoSaid : Prop := screenShiftedUptoRow.holds Try.pinned (OpenSpec.upto screenShiftedSpec)

/-- 'skywaykeep4.ScreenSwapped', WHERE WHAT IT READS IS OF BULK AT MOST 1048576: true; the input reads as it did. -/
def screenSwappedUptoRow : OpenClaim := { program := "ytijgdgkfimnkbaa", sum := "58c9f27c1f18581dcbb1380c2837086474b34b7c92bf746e4ed72756f7fe2e8f", func := "skyway/skywaykeep4.ScreenSwapped", spec := "screenSwapped", unfollowed := true, recurses := true, apart := false, narrowed := true }
def ScreenSwappedUptoSaid : Prop := screenSwappedUptoRow.holds Try.pinned (OpenSpec.upto screenSwappedSpec)

/-- 'skywaykeep4.ScreenMoved', WHERE WHAT IT READS IS OF BULK AT MOST 1048576: true; the input reads as it did. -/
def screenMovedUptoRow : OpenClaim := { program := "ytijgdgkfimnkbaa", sum := "58c9f27c1f18581dcbb1380c2837086474b34b7c92bf746e4ed72756f7fe2e8f", func := "skyway/skywaykeep4.ScreenMoved", spec := "screenMoved", unfollowed := true, recurses := true, apart := false, narrowed := true }
def ScreenMovedUptoSaid : Prop := screenMovedUptoRow.holds Try.pinned (OpenSpec.upto screenMovedSpec)

/-- 'skywaykeep4.ScreenShows', WHERE WHAT IT READS IS OF BULK AT MOST 1048576: true; the input reads as it did. -/
def screenShowsUptoRow : OpenClaim := { program := "ytijgdgkfimnkbaa", sum := "58c9f27c1f18581dcbb1380c2837086474b34b7c92bf746e4ed72756f7fe2e8f", func := "skyway/skywaykeep4.ScreenShows", spec := "screenShows", inPlace := ["internal/abi.NoEscape", "internal/bytealg.MakeNoZero", "internal/bytealg.CountString", "internal/bytealg.IndexByteString", "internal/bytealg.IndexString"], unfollowed := true, recurses := true, named := ["internal/bytealg.MaxLen"], apart := false, narrowed := true }
def ScreenShowsUptoSaid : Prop := screenShowsUptoRow.holds Try.pinned (OpenSpec.upto screenShowsSpec)

end Rows
end Go.Proofs.Ytijgdgkfimnkbaa
