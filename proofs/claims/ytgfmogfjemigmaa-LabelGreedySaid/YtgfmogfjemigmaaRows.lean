/-
  No cell of these rows narrows 'for every input' (looked for: loops, veiled, ifaces, maps, wideKeys, modest, calm, conditions, laid).
  DERIVED. THE GIVEN ROWS OF THIS SEAT. 3 by the template 'for every input the law returns true; each argument reads behind the call as it read before'; 0 by the template 'total and deterministic' (their statements: YtgfmogfjemigmaaTotals.lean).
  GIVEN WITH THE SEED: the statements are not yours to turn. If you find one false, say at which input.
  Laid BY PROGRAM, IN A SANDBOX (cutbox-rows.mjs): the forced cells as the released guide's own fill.sh prints them over the translation 8de5e2d323a42272… (all of the seat's roots in one cut). By AI agents, Wed Nov 11 2026. No macro, syntax, notation, axiom, sorry.
-/
import Derived.Test.YtgfmogfjemigmaaChecked
import GoSem.Claim
import GoSem.ClaimJoined
import GoSem.ClaimMapViews
import Derived.JoinedTies
import Derived.KernelRfl
namespace Go.Proofs.Ytgfmogfjemigmaa
/- THE CELL 'sum', in the pinned program and in every row, IS THE sha256 OF THE DUMP (.gsa) THAT YtgfmogfjemigmaaProg.lean LOADS. Nothing in Lean hashes anything: it is a label: what it is worth is what the hold of that sum in a sandbox is worth. -/
noncomputable def Try.pinned : Pinned := { name := "ytgfmogfjemigmaa", sum := "8de5e2d323a42272d5ba1ce8cb277193a297bfad961b8b2c50b43039a0978c3a", checked := Try.checked }
namespace Rows
def none {H : Type} : Left H := { results := [], args := [] }

/-- 'skywaykeep4.LabelMeets': WHATEVER THE INPUT: true; the input reads as it did. -/
def labelMeetsSpec : ChangeSpec := { name := "labelMeets", fn := fun _ => fun
  | [d1, d2] => { results := [.lit (.bool true)], args := [d1, d2] }
  | _ => none }
def labelMeetsRow : OpenClaim := { program := "ytgfmogfjemigmaa", sum := "8de5e2d323a42272d5ba1ce8cb277193a297bfad961b8b2c50b43039a0978c3a", func := "skyway/skywaykeep4.LabelMeets", spec := "labelMeets", apart := false }
def LabelMeetsSaid : Prop := labelMeetsRow.holds Try.pinned (OpenSpec.ofChange labelMeetsSpec)

/-- ITS FALSE NEIGHBOUR: 'it returns false'. Refute it at one input. -/
def labelMeetsWrong : ChangeSpec := { name := "labelMeets", fn := fun _ => fun
  | [d1, d2] => { results := [.lit (.bool false)], args := [d1, d2] }
  | _ => none }
def LabelMeetsWrongFalsely : Prop := labelMeetsRow.holds Try.pinned (OpenSpec.ofChange labelMeetsWrong)

/-- 'skywaykeep4.LabelShifted': WHATEVER THE INPUT: true; the input reads as it did. -/
def labelShiftedSpec : ChangeSpec := { name := "labelShifted", fn := fun _ => fun
  | [d1, d2, d3] => { results := [.lit (.bool true)], args := [d1, d2, d3] }
  | _ => none }
def labelShiftedRow : OpenClaim := { program := "ytgfmogfjemigmaa", sum := "8de5e2d323a42272d5ba1ce8cb277193a297bfad961b8b2c50b43039a0978c3a", func := "skyway/skywaykeep4.LabelShifted", spec := "labelShifted", unfollowed := true, recurses := true, apart := false }
def LabelShiftedSaid : Prop := labelShiftedRow.holds Try.pinned (OpenSpec.ofChange labelShiftedSpec)

/-- ITS FALSE NEIGHBOUR: 'it returns false'. Refute it at one input. -/
def labelShiftedWrong : ChangeSpec := { name := "labelShifted", fn := fun _ => fun
  | [d1, d2, d3] => { results := [.lit (.bool false)], args := [d1, d2, d3] }
  | _ => none }
def LabelShiftedWrongFalsely : Prop := labelShiftedRow.holds Try.pinned (OpenSpec.ofChange labelShiftedWrong)

/-- 'skywaykeep4.LabelGreedy': WHATEVER THE INPUT: true; the input reads as it did. -/
def labelGreedySpec : ChangeSpec := { name := "labelGreedy", fn := fun _ => fun
  | [d] => { results := [.lit (.bool true)], args := [d] }
  | _ => none }
def labelGreedyRow : OpenClaim := { program := "ytgfmogfjemigmaa", sum := "8de5e2d323a42272d5ba1ce8cb277193a297bfad961b8b2c50b43039a0978c3a", func := "skyway/skywaykeep4.LabelGreedy", spec := "labelGreedy", unfollowed := true, recurses := true, apart := false }
def LabelGreedySaid : Prop := labelGreedyRow.holds Try.pinned (OpenSpec.ofChange labelGreedySpec)

/-- ITS FALSE NEIGHBOUR: 'it returns false'. Refute it at one input. -/
def labelGreedyWrong : ChangeSpec := { name := "labelGreedy", fn := fun _ => fun
  | [d] => { results := [.lit (.bool false)], args := [d] }
  | _ => none }
def LabelGreedyWrongFalsely : Prop := labelGreedyRow.holds Try.pinned (OpenSpec.ofChange labelGreedyWrong)

/- THE SECOND FORM. 'bulk': how many values and letters a reading holds, each counted each time it is reached (what is shared counts as often as it is met; a slice's spare places count too). A statement '..UptoSaid' is the law's where the arguments, and the package variables that the reading takes, are together of bulk at most 1048576: NARROWER than '..Said'. Prove '..Said' where nothing that the law and all that it calls make is longer than what came in: it says more and counts as full. Else prove '..UptoSaid'. A law counts once. -/
mutual
def uptoBulk {H : Type} : DataW H → Nat
  | .lit (.string bytes) => bytes.length + 1
  | .lit _ => 1
  | .nil => 1
  | .ptr d => uptoBulk d + 1
  | .slice elems spare => uptoBulkAll elems + uptoBulkAll spare + 1
  | .agg parts => uptoBulkAll parts + 1
  | .iface _ d => uptoBulk d + 1
  | .map entries => uptoBulkEntries entries + 1
  | .held _ => 1
def uptoBulkAll {H : Type} : List (DataW H) → Nat
  | [] => 0
  | d :: r => uptoBulk d + uptoBulkAll r
def uptoBulkEntries {H : Type} : List (Lit × DataW H) → Nat
  | [] => 0
  | x :: r => uptoBulkEntry x + uptoBulkEntries r
def uptoBulkEntry {H : Type} : Lit × DataW H → Nat
  | (.string bytes, d) => bytes.length + uptoBulk d + 1
  | (_, d) => uptoBulk d + 1
 end
def uptoSmall : (H : Type) → List (DataW H) → Bool := fun _ ds => decide (uptoBulkAll ds ≤ 1048576)
def OpenSpec.upto (s : _root_.Go.ChangeSpec) : _root_.Go.OpenSpec := { _root_.Go.OpenSpec.ofChange s with cond := some uptoSmall }

/-- 'skywaykeep4.LabelMeets', WHERE WHAT IT READS IS OF BULK AT MOST 1048576: true; the input reads as it did. -/
def labelMeetsUptoRow : OpenClaim := { program := "ytgfmogfjemigmaa", sum := "8de5e2d323a42272d5ba1ce8cb277193a297bfad961b8b2c50b43039a0978c3a", func := "skyway/skywaykeep4.LabelMeets", spec := "labelMeets", apart := false, narrowed := true }
def LabelMeetsUptoSaid : Prop := labelMeetsUptoRow.holds Try.pinned (OpenSpec.upto labelMeetsSpec)

/-- 'skywaykeep4.LabelShifted', WHERE WHAT IT READS IS OF BULK AT MOST 1048576: true; the input reads as it did. -/
def labelShiftedUptoRow : OpenClaim := { program := "ytgfmogfjemigmaa", sum := "8de5e2d323a42272d5ba1ce8cb277193a297bfad961b8b2c50b43039a0978c3a", func := "skyway/skywaykeep4.LabelShifted", spec := "labelShifted", unfollowed := true, recurses := true, apart := false, narrowed := true }
def LabelShiftedUptoSaid : Prop := labelShiftedUptoRow.holds Try.pinned (OpenSpec.upto labelShiftedSpec)

/-- 'skywaykeep4.LabelGreedy', WHERE WHAT IT READS IS OF BULK AT MOST 1048576: true; the input reads as it did. -/
def labelGreedyUptoRow : OpenClaim := { program := "ytgfmogfjemigmaa", sum := "8de5e2d323a42272d5ba1ce8cb277193a297bfad961b8b2c50b43039a0978c3a", func := "skyway/skywaykeep4.LabelGreedy", spec := "labelGreedy", unfollowed := true, recurses := true, apart := false, narrowed := true }
def LabelGreedyUptoSaid : Prop := labelGreedyUptoRow.holds Try.pinned (OpenSpec.upto labelGreedySpec)

end Rows
end Go.Proofs.Ytgfmogfjemigmaa
