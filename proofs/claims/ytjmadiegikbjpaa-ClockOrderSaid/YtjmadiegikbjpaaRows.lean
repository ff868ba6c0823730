/-
  No cell of these rows narrows 'for every input' (looked for: loops, veiled, ifaces, maps, wideKeys, modest, calm, conditions, laid).
  DERIVED. THE GIVEN ROWS OF THIS SEAT. 5 by the template 'for every input the law returns true; each argument reads behind the call as it read before'; 0 by the template 'total and deterministic' (their statements: YtjmadiegikbjpaaTotals.lean).
  GIVEN WITH THE SEED: the statements are not yours to turn. If you find one false, say at which input.
  Laid BY PROGRAM, IN A SANDBOX (cutbox-rows.mjs): the forced cells as the released guide's own fill.sh prints them over the translation f6826cd76066ce20… (all of the seat's roots in one cut). By AI agents, Wed Nov 11 2026. No macro, syntax, notation, axiom, sorry.
-/
import Derived.Test.YtjmadiegikbjpaaChecked
import GoSem.Claim
import GoSem.ClaimJoined
import GoSem.ClaimMapViews
import Derived.JoinedTies
import Derived.KernelRfl
namespace Go.Proofs.Ytjmadiegikbjpaa
/- THE CELL 'sum', in the pinned program and in every row, IS THE sha256 OF THE DUMP (.gsa) THAT YtjmadiegikbjpaaProg.lean LOADS. Nothing in Lean hashes anything: it is a label: what it is worth is what the hold of that sum in a sandbox is worth. -/
noncomputable def Try.pinned : Pinned := { name := "ytjmadiegikbjpaa", sum := "f6826cd76066ce200483ae371d645b7fb18e9bdf70abf835cf1955c81afdf870", checked := Try.checked }
namespace Rows
def none {H : Type} : Left H := { results := [], args := [] }

/-- 'skywaykeep4.ClockApart': WHATEVER THE INPUT: true; the input reads as it did. -/
def clockApartSpec : ChangeSpec := { name := "clockApart", fn := fun _ => fun
  | [d1, d2, d3] => { results := [.lit (.bool true)], args := [d1, d2, d3] }
  | _ => none }
def clockApartRow : OpenClaim := { program := "ytjmadiegikbjpaa", sum := "f6826cd76066ce200483ae371d645b7fb18e9bdf70abf835cf1955c81afdf870", func := "skyway/skywaykeep4.ClockApart", spec := "clockApart", unfollowed := true, recurses := true, apart := false }
def ClockApartSaid : Prop := clockApartRow.holds Try.pinned (OpenSpec.ofChange clockApartSpec)

/-- ITS FALSE NEIGHBOUR: 'it returns false'. Refute it at one input. -/
def clockApartWrong : ChangeSpec := { name := "clockApart", fn := fun _ => fun
  | [d1, d2, d3] => { results := [.lit (.bool false)], args := [d1, d2, d3] }
  | _ => none }
def ClockApartWrongFalsely : Prop := clockApartRow.holds Try.pinned (OpenSpec.ofChange clockApartWrong)

/-- 'skywaykeep4.ClockVectors': WHATEVER THE INPUT: true; the input reads as it did. -/
def clockVectorsSpec : ChangeSpec := { name := "clockVectors", fn := fun _ => fun
  | [d] => { results := [.lit (.bool true)], args := [d] }
  | _ => none }
def clockVectorsRow : OpenClaim := { program := "ytjmadiegikbjpaa", sum := "f6826cd76066ce200483ae371d645b7fb18e9bdf70abf835cf1955c81afdf870", func := "skyway/skywaykeep4.ClockVectors", spec := "clockVectors", unfollowed := true, recurses := true, apart := false }
def ClockVectorsSaid : Prop := clockVectorsRow.holds Try.pinned (OpenSpec.ofChange clockVectorsSpec)

/-- ITS FALSE NEIGHBOUR: 'it returns false'. Refute it at one input. -/
def clockVectorsWrong : ChangeSpec := { name := "clockVectors", fn := fun _ => fun
  | [d] => { results := [.lit (.bool false)], args := [d] }
  | _ => none }
def ClockVectorsWrongFalsely : Prop := clockVectorsRow.holds Try.pinned (OpenSpec.ofChange clockVectorsWrong)

/-- 'skywaykeep4.ClockFront': WHATEVER THE INPUT: true; the input reads as it did. -/
def clockFrontSpec : ChangeSpec := { name := "clockFront", fn := fun _ => fun
  | [d1, d2] => { results := [.lit (.bool true)], args := [d1, d2] }
  | _ => none }
def clockFrontRow : OpenClaim := { program := "ytjmadiegikbjpaa", sum := "f6826cd76066ce200483ae371d645b7fb18e9bdf70abf835cf1955c81afdf870", func := "skyway/skywaykeep4.ClockFront", spec := "clockFront", unfollowed := true, recurses := true, apart := false }
def ClockFrontSaid : Prop := clockFrontRow.holds Try.pinned (OpenSpec.ofChange clockFrontSpec)

/-- ITS FALSE NEIGHBOUR: 'it returns false'. Refute it at one input. -/
def clockFrontWrong : ChangeSpec := { name := "clockFront", fn := fun _ => fun
  | [d1, d2] => { results := [.lit (.bool false)], args := [d1, d2] }
  | _ => none }
def ClockFrontWrongFalsely : Prop := clockFrontRow.holds Try.pinned (OpenSpec.ofChange clockFrontWrong)

/-- 'skywaykeep4.ClockJoins': WHATEVER THE INPUT: true; the input reads as it did. -/
def clockJoinsSpec : ChangeSpec := { name := "clockJoins", fn := fun _ => fun
  | [d1, d2, d3] => { results := [.lit (.bool true)], args := [d1, d2, d3] }
  | _ => none }
def clockJoinsRow : OpenClaim := { program := "ytjmadiegikbjpaa", sum := "f6826cd76066ce200483ae371d645b7fb18e9bdf70abf835cf1955c81afdf870", func := "skyway/skywaykeep4.ClockJoins", spec := "clockJoins", unfollowed := true, recurses := true, apart := false }
def ClockJoinsSaid : Prop := clockJoinsRow.holds Try.pinned (OpenSpec.ofChange clockJoinsSpec)

/-- ITS FALSE NEIGHBOUR: 'it returns false'. Refute it at one input. -/
def clockJoinsWrong : ChangeSpec := { name := "clockJoins", fn := fun _ => fun
  | [d1, d2, d3] => { results := [.lit (.bool false)], args := [d1, d2, d3] }
  | _ => none }
def ClockJoinsWrongFalsely : Prop := clockJoinsRow.holds Try.pinned (OpenSpec.ofChange clockJoinsWrong)

/-- 'skywaykeep4.ClockOrder': WHATEVER THE INPUT: true; the input reads as it did. -/
def clockOrderSpec : ChangeSpec := { name := "clockOrder", fn := fun _ => fun
  | [d] => { results := [.lit (.bool true)], args := [d] }
  | _ => none }
def clockOrderRow : OpenClaim := { program := "ytjmadiegikbjpaa", sum := "f6826cd76066ce200483ae371d645b7fb18e9bdf70abf835cf1955c81afdf870", func := "skyway/skywaykeep4.ClockOrder", spec := "clockOrder", unfollowed := true, recurses := true, apart := false }
def ClockOrderSaid : Prop := clockOrderRow.holds Try.pinned (OpenSpec.ofChange clockOrderSpec)

/-- ITS FALSE NEIGHBOUR: 'it returns false'. Refute it at one input. -/
def clockOrderWrong : ChangeSpec := { name := "clockOrder", fn := fun _ => fun
  | [d] => { results := [.lit (.bool false)], args := [d] }
  | _ => none }
def ClockOrderWrongFalsely : Prop := clockOrderRow.holds Try.pinned (OpenSpec.ofChange clockOrderWrong)

/- THE SECOND FORM. 'bulk': how many values and letters a reading holds, each counted each time it is reached (what is shared counts as often as it is met; a slice's spare places count too). A statement '..UptoSaid' is the law's where the arguments, and the package variables that the reading takes, are together of bulk at most 1048576: NARROWER than '..Said'. Prove '..Said' where nothing that the law and all that it calls make is longer than what came in: it says more and counts as full. Else prove '..UptoSaid'. A law counts once. -/
mutual
def uptoBulk {H : Type} : DataW H → Nat
  | .lit (.string bytes) => bytes.length + 1
  | .lit _ => 1
  | .nil => 1
  | .ptr d => uptoBulk d + 1
  | .slice elems spare => uptoBulkAll elems + uptoBulkAll spare + 1
  | .agg parts => uptoBulkAll parts + 1
  | .iface _ d => uptoBulk d + 1
  | .map entries => uptoBulkEntries entries + 1
  | .held _ => 1
def uptoBulkAll {H : Type} : List (DataW H) → Nat
  | [] => 0
  | d :: r => uptoBulk d + uptoBulkAll r
def uptoBulkEntries {H : Type} : List (Lit × DataW H) → Nat
  | [] => 0
  | x :: r => uptoBulkEntry x + uptoBulkEntries r
def uptoBulkEntry {H : Type} : Lit × DataW H → Nat
  | (.string bytes, d) => bytes.length + uptoBulk d + 1
  | (_, d) => uptoBulk d + 1
 end
def uptoSmall : (H : Type) → List (DataW H) → Bool := fun _ ds => decide (uptoBulkAll ds ≤ 1048576)
def OpenSpec.upto (s : _root_.Go.ChangeSpec) : _root_.Go.OpenSpec := { _root_.Go.OpenSpec.ofChange s with cond := some uptoSmall }

/-- 'skywaykeep4.ClockApart', WHERE WHAT IT READS IS OF BULK AT MOST 1048576: true; the input reads as it did. -/
def clockApartUptoRow : OpenClaim := { program := "ytjmadiegikbjpaa", sum := "f6826cd76066ce200483ae371d645b7fb18e9bdf70abf835cf1955c81afdf870", func := "skyway/skywaykeep4.ClockApart", spec := "clockApart", unfollowed := true, recurses := true, apart := false, narrowed := true }
def ClockApartUptoSaid : Prop := clockApartUptoRow.holds Try.pinned (OpenSpec.upto clockApartSpec)

/-- 'skywaykeep4.ClockVectors', WHERE WHAT IT READS IS OF BULK AT MOST 1048576: true; the input reads as it did. -/
def clockVectorsUptoRow : OpenClaim := { program := "ytjmadiegikbjpaa", sum := "f6826cd76066ce200483ae371d645b7fb18e9bdf70abf835cf1955c81afdf870", func := "skyway/skywaykeep4.ClockVectors", spec := "clockVectors", unfollowed := true, recurses := true, apart := false, narrowed := true }
def ClockVectorsUptoSaid : Prop := clockVectorsUptoRow.holds Try.pinned (OpenSpec.upto clockVectorsSpec)

/-- 'skywaykeep4.ClockFront', WHERE WHAT IT READS IS OF BULK AT MOST 1048576: true; the input reads as it did. -/
def clockFrontUptoRow : OpenClaim := { program := "ytjmadiegikbjpaa", sum := "f6826cd76066ce200483ae371d645b7fb18e9bdf70abf835cf1955c81afdf870", func := "skyway/skywaykeep4.ClockFront", spec := "clockFront", unfollowed := true, recurses := true, apart := false, narrowed := true }
def ClockFrontUptoSaid : Prop := clockFrontUptoRow.holds Try.pinned (OpenSpec.upto clockFrontSpec)

/-- 'skywaykeep4.ClockJoins', WHERE WHAT IT READS IS OF BULK AT MOST 1048576: true; the input reads as it did. -/
def clockJoinsUptoRow : OpenClaim := { program := "ytjmadiegikbjpaa", sum := "f6826cd76066ce200483ae371d645b7fb18e9bdf70abf835cf1955c81afdf870", func := "skyway/skywaykeep4.ClockJoins", spec := "clockJoins", unfollowed := true, recurses := true, apart := false, narrowed := true }
def ClockJoinsUptoSaid : Prop := clockJoinsUptoRow.holds Try.pinned (OpenSpec.upto clockJoinsSpec)

/-- 'skywaykeep4.ClockOrder', WHERE WHAT IT READS IS OF BULK AT MOST 1048576: true; the input reads as it did. -/
def clockOrderUptoRow : OpenClaim := { program := "ytjmadiegikbjpaa", sum := "f6826cd76066ce200483ae371d645b7fb18e9bdf70abf835cf1955c81afdf870", func := "skyway/skywaykeep4.ClockOrder", spec := "clockOrder", unfollowed := true, recurses := true, apart := false, narrowed := true }
def ClockOrderUptoSaid : Prop := clockOrderUptoRow.holds Try.pinned (OpenSpec.upto clockOrderSpec)

end Rows
end Go.Proofs.Ytjmadiegikbjpaa
