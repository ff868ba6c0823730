/-
  No cell of these rows narrows 'for every input' (looked for: loops, veiled, ifaces, maps, wideKeys, modest, calm, conditions, laid).
  DERIVED. THE GIVEN ROWS OF THIS SEAT. 5 by the template 'for every input the law returns true; each argument reads behind the call as it read before'; 0 by the template 'total and deterministic' (their statements: YtiibdlifdneagaaTotals.lean).
  GIVEN WITH THE SEED: the statements are not yours to turn. If you find one false, say at which input.
  Laid BY PROGRAM, IN A SANDBOX (cutbox-rows.mjs): the forced cells as the released guide's own fill.sh prints them over the translation 907575853991ec93… (all of the seat's roots in one cut). By AI agents, Wed Nov 11 2026. No macro, syntax, notation, axiom, sorry.
-/
import Derived.Test.YtiibdlifdneagaaChecked
import GoSem.Claim
import GoSem.ClaimJoined
import GoSem.ClaimMapViews
import Derived.JoinedTies
import Derived.KernelRfl
namespace Go.Proofs.Ytiibdlifdneagaa
/- THE CELL 'sum', in the pinned program and in every row, IS THE sha256 OF THE DUMP (.gsa) THAT YtiibdlifdneagaaProg.lean LOADS. Nothing in Lean hashes anything: it is a label: what it is worth is what the hold of that sum in a sandbox is worth. -/
noncomputable def Try.pinned : Pinned := { name := "ytiibdlifdneagaa", sum := "907575853991ec939eb8edba875f9d7aba44b9cf14427adc2d485fbc32c19165", checked := Try.checked }
namespace Rows
def none {H : Type} : Left H := { results := [], args := [] }

/-- 'skywaykeep4.ApproachGaps': WHATEVER THE INPUT: true; the input reads as it did. -/
def approachGapsSpec : ChangeSpec := { name := "approachGaps", fn := fun _ => fun
  | [d1, d2] => { results := [.lit (.bool true)], args := [d1, d2] }
  | _ => none }
def approachGapsRow : OpenClaim := { program := "ytiibdlifdneagaa", sum := "907575853991ec939eb8edba875f9d7aba44b9cf14427adc2d485fbc32c19165", func := "skyway/skywaykeep4.ApproachGaps", spec := "approachGaps", apart := false }
def ApproachGapsSaid : Prop := approachGapsRow.holds Try.pinned (OpenSpec.ofChange approachGapsSpec)

/-- ITS FALSE NEIGHBOUR: 'it returns false'. Refute it at one input. -/
def approachGapsWrong : ChangeSpec := { name := "approachGaps", fn := fun _ => fun
  | [d1, d2] => { results := [.lit (.bool false)], args := [d1, d2] }
  | _ => none }
def ApproachGapsWrongFalsely : Prop := approachGapsRow.holds Try.pinned (OpenSpec.ofChange approachGapsWrong)

/-- 'skywaykeep4.ApproachLater': WHATEVER THE INPUT: true; the input reads as it did. -/
def approachLaterSpec : ChangeSpec := { name := "approachLater", fn := fun _ => fun
  | [d1, d2, d3] => { results := [.lit (.bool true)], args := [d1, d2, d3] }
  | _ => none }
def approachLaterRow : OpenClaim := { program := "ytiibdlifdneagaa", sum := "907575853991ec939eb8edba875f9d7aba44b9cf14427adc2d485fbc32c19165", func := "skyway/skywaykeep4.ApproachLater", spec := "approachLater", apart := false }
def ApproachLaterSaid : Prop := approachLaterRow.holds Try.pinned (OpenSpec.ofChange approachLaterSpec)

/-- ITS FALSE NEIGHBOUR: 'it returns false'. Refute it at one input. -/
def approachLaterWrong : ChangeSpec := { name := "approachLater", fn := fun _ => fun
  | [d1, d2, d3] => { results := [.lit (.bool false)], args := [d1, d2, d3] }
  | _ => none }
def ApproachLaterWrongFalsely : Prop := approachLaterRow.holds Try.pinned (OpenSpec.ofChange approachLaterWrong)

/-- 'skywaykeep4.ApproachWithout': WHATEVER THE INPUT: true; the input reads as it did. -/
def approachWithoutSpec : ChangeSpec := { name := "approachWithout", fn := fun _ => fun
  | [d1, d2, d3] => { results := [.lit (.bool true)], args := [d1, d2, d3] }
  | _ => none }
def approachWithoutRow : OpenClaim := { program := "ytiibdlifdneagaa", sum := "907575853991ec939eb8edba875f9d7aba44b9cf14427adc2d485fbc32c19165", func := "skyway/skywaykeep4.ApproachWithout", spec := "approachWithout", apart := false }
def ApproachWithoutSaid : Prop := approachWithoutRow.holds Try.pinned (OpenSpec.ofChange approachWithoutSpec)

/-- ITS FALSE NEIGHBOUR: 'it returns false'. Refute it at one input. -/
def approachWithoutWrong : ChangeSpec := { name := "approachWithout", fn := fun _ => fun
  | [d1, d2, d3] => { results := [.lit (.bool false)], args := [d1, d2, d3] }
  | _ => none }
def ApproachWithoutWrongFalsely : Prop := approachWithoutRow.holds Try.pinned (OpenSpec.ofChange approachWithoutWrong)

/-- 'skywaykeep4.ApproachPromised': WHATEVER THE INPUT: true; the input reads as it did. -/
def approachPromisedSpec : ChangeSpec := { name := "approachPromised", fn := fun _ => fun
  | [d1, d2] => { results := [.lit (.bool true)], args := [d1, d2] }
  | _ => none }
def approachPromisedRow : OpenClaim := { program := "ytiibdlifdneagaa", sum := "907575853991ec939eb8edba875f9d7aba44b9cf14427adc2d485fbc32c19165", func := "skyway/skywaykeep4.ApproachPromised", spec := "approachPromised", unfollowed := true, recurses := true, apart := false }
def ApproachPromisedSaid : Prop := approachPromisedRow.holds Try.pinned (OpenSpec.ofChange approachPromisedSpec)

/-- ITS FALSE NEIGHBOUR: 'it returns false'. Refute it at one input. -/
def approachPromisedWrong : ChangeSpec := { name := "approachPromised", fn := fun _ => fun
  | [d1, d2] => { results := [.lit (.bool false)], args := [d1, d2] }
  | _ => none }
def ApproachPromisedWrongFalsely : Prop := approachPromisedRow.holds Try.pinned (OpenSpec.ofChange approachPromisedWrong)

/-- 'skywaykeep4.ApproachSorted': WHATEVER THE INPUT: true; the input reads as it did. -/
def approachSortedSpec : ChangeSpec := { name := "approachSorted", fn := fun _ => fun
  | [d1, d2] => { results := [.lit (.bool true)], args := [d1, d2] }
  | _ => none }
def approachSortedRow : OpenClaim := { program := "ytiibdlifdneagaa", sum := "907575853991ec939eb8edba875f9d7aba44b9cf14427adc2d485fbc32c19165", func := "skyway/skywaykeep4.ApproachSorted", spec := "approachSorted", unfollowed := true, recurses := true, apart := false }
def ApproachSortedSaid : Prop := approachSortedRow.holds Try.pinned (OpenSpec.ofChange approachSortedSpec)

/-- ITS FALSE NEIGHBOUR: 'it returns false'. Refute it at one input. -/
def approachSortedWrong : ChangeSpec := { name := "approachSorted", fn := fun _ => fun
  | [d1, d2] => { results := [.lit (.bool false)], args := [d1, d2] }
  | _ => none }
def ApproachSortedWrongFalsely : Prop := approachSortedRow.holds Try.pinned (OpenSpec.ofChange approachSortedWrong)

/- THE SECOND FORM. 'bulk': how many values and letters a reading holds, each counted each time it is reached (what is shared counts as often as it is met; a slice's spare places count too). A statement '..UptoSaid' is the law's where the arguments, and the package variables that the reading takes, are together of bulk at most 1048576: NARROWER than '..Said'. Prove '..Said' where nothing that the law and all that it calls make is longer than what came in: it says more and counts as full. Else prove '..UptoSaid'. A law counts once. -/
mutual
def uptoBulk {H : Type} : DataW H → Nat
  | .lit (.string bytes) => bytes.length + 1
  | .lit _ => 1
  | .nil => 1
  | .ptr d => uptoBulk d + 1
  | .slice elems spare => uptoBulkAll elems + uptoBulkAll spare + 1
  | .agg parts => uptoBulkAll parts + 1
  | .iface _ d => uptoBulk d + 1
  | .map entries => uptoBulkEntries entries + 1
  | .held _ => 1
def uptoBulkAll {H : Type} : List (DataW H) → Nat
  | [] => 0
  | d :: r => uptoBulk d + uptoBulkAll r
def uptoBulkEntries {H : Type} : List (Lit × DataW H) → Nat
  | [] => 0
  | x :: r => uptoBulkEntry x + uptoBulkEntries r
def uptoBulkEntry {H : Type} : Lit × DataW H → Nat
  | (.string bytes, d) => bytes.length + uptoBulk d + 1
  | (_, d) => uptoBulk d + 1
 end
def uptoSmall : (H : Type) → List (DataW H) → Bool := fun _ ds => decide (uptoBulkAll ds ≤ 1048576)
def OpenSpec.upto (s : _root_.Go.ChangeSpec) : _root_.Go.OpenSpec := { _root_.Go.OpenSpec.ofChange s with cond := some uptoSmall }

/-- 'skywaykeep4.ApproachGaps', WHERE WHAT IT READS IS OF BULK AT MOST 1048576: true; the input reads as it did. -/
def approachGapsUptoRow : OpenClaim := { program := "ytiibdlifdneagaa", sum := "907575853991ec939eb8edba875f9d7aba44b9cf14427adc2d485fbc32c19165", func := "skyway/skywaykeep4.ApproachGaps", spec := "approachGaps", apart := false, narrowed := true }
def ApproachGapsUptoSaid : Prop := approachGapsUptoRow.holds Try.pinned (OpenSpec.upto approachGapsSpec)

/-- 'skywaykeep4.ApproachLater', WHERE WHAT IT READS IS OF BULK AT MOST 1048576: true; the input reads as it did. -/
def approachLaterUptoRow : OpenClaim := { program := "ytiibdlifdneagaa", sum := "907575853991ec939eb8edba875f9d7aba44b9cf14427adc2d485fbc32c19165", func := "skyway/skywaykeep4.ApproachLater", spec := "approachLater", apart := false, narrowed := true }
def ApproachLaterUptoSaid : Prop := approachLaterUptoRow.holds Try.pinned (OpenSpec.upto approachLaterSpec)

/-- 'skywaykeep4.ApproachWithout', WHERE WHAT IT READS IS OF BULK AT MOST 1048576: true; the input reads as it did. -/
def approachWithoutUptoRow : OpenClaim := { program := "ytiibdlifdneagaa", sum := "907575853991ec939eb8edba875f9d7aba44b9cf14427adc2d485fbc32c19165", func := "skyway/skywaykeep4.ApproachWithout", spec := "approachWithout", apart := false, narrowed := true }
def ApproachWithoutUptoSaid : Prop := approachWithoutUptoRow.holds Try.pinned (OpenSpec.upto approachWithoutSpec)

/-- 'skywaykeep4.ApproachPromised', WHERE WHAT IT READS IS OF BULK AT MOST 1048576: true; the input reads as it did. -/
def approachPromisedUptoRow : OpenClaim := { program := "ytiibdlifdneagaa", sum := "907575853991ec939eb8edba875f9d7aba44b9cf14427adc2d485fbc32c19165", func := "skyway/skywaykeep4.ApproachPromised", spec := "approachPromised", unfollowed := true, recurses := true, apart := false, narrowed := true }
def ApproachPromisedUptoSaid : Prop := approachPromisedUptoRow.holds Try.pinned (OpenSpec.upto approachPromisedSpec)

/-- 'skywaykeep4.ApproachSorted', WHERE WHAT IT READS IS OF BULK AT MOST 1048576: true; the input reads as it did. -/
def approachSortedUptoRow : OpenClaim := { program := "ytiibdlifdneagaa", sum := "907575853991ec939eb8edba875f9d7aba44b9cf14427adc2d485fbc32c19165", func := "skyway/skywaykeep4.ApproachSorted", spec := "approachSorted", unfollowed := true, recurses := true, apart := false, narrowed := true }
def ApproachSortedUptoSaid : Prop := approachSortedUptoRow.holds Try.pinned (OpenSpec.upto approachSortedSpec)

end Rows
end Go.Proofs.Ytiibdlifdneagaa
