/-
  No cell of these rows narrows 'for every input' (looked for: loops, veiled, ifaces, maps, wideKeys, modest, calm, conditions, laid).
  DERIVED. THE GIVEN ROWS OF THIS SEAT. 4 by the template 'for every input the law returns true; each argument reads behind the call as it read before'; 0 by the template 'total and deterministic' (their statements: YtpdeopgmgeaglaaTotals.lean).
  GIVEN WITH THE SEED: the statements are not yours to turn. If you find one false, say at which input.
  Laid BY PROGRAM, IN A SANDBOX (cutbox-rows.mjs): the forced cells as the released guide's own fill.sh prints them over the translation d307c4965e03a4f0… (all of the seat's roots in one cut). By AI agents, Wed Nov 11 2026. No macro, syntax, notation, axiom, sorry.
-/
import Derived.Test.YtpdeopgmgeaglaaChecked
import GoSem.Claim
import GoSem.ClaimJoined
import GoSem.ClaimMapViews
import Derived.JoinedTies
import Derived.KernelRfl
namespace Go.Proofs.Ytpdeopgmgeaglaa
/- THE CELL 'sum', in the pinned program and in every row, IS THE sha256 OF THE DUMP (.gsa) THAT YtpdeopgmgeaglaaProg.lean LOADS. Nothing in Lean hashes anything: it is a label: what it is worth is what the hold of that sum in a sandbox is worth. -/
noncomputable def Try.pinned : Pinned := { name := "ytpdeopgmgeaglaa", sum := "d307c4965e03a4f0971d6f471611fc944232360a8cd781d3ba95a03b33667fea", checked := Try.checked }
namespace Rows
def none {H : Type} : Left H := { results := [], args := [] }

/-- 'skywaykeep4.HoldWaits': WHATEVER THE INPUT: true; the input reads as it did. -/
def holdWaitsSpec : ChangeSpec := { name := "holdWaits", fn := fun _ => fun
  | [d1, d2, d3] => { results := [.lit (.bool true)], args := [d1, d2, d3] }
  | _ => none }
def holdWaitsRow : OpenClaim := { program := "ytpdeopgmgeaglaa", sum := "d307c4965e03a4f0971d6f471611fc944232360a8cd781d3ba95a03b33667fea", func := "skyway/skywaykeep4.HoldWaits", spec := "holdWaits", unfollowed := true, recurses := true, apart := false }
def HoldWaitsSaid : Prop := holdWaitsRow.holds Try.pinned (OpenSpec.ofChange holdWaitsSpec)

/-- ITS FALSE NEIGHBOUR: 'it returns false'. Refute it at one input. -/
def holdWaitsWrong : ChangeSpec := { name := "holdWaits", fn := fun _ => fun
  | [d1, d2, d3] => { results := [.lit (.bool false)], args := [d1, d2, d3] }
  | _ => none }
def HoldWaitsWrongFalsely : Prop := holdWaitsRow.holds Try.pinned (OpenSpec.ofChange holdWaitsWrong)

/-- 'skywaykeep4.HoldApart': WHATEVER THE INPUT: true; the input reads as it did. -/
def holdApartSpec : ChangeSpec := { name := "holdApart", fn := fun _ => fun
  | [d] => { results := [.lit (.bool true)], args := [d] }
  | _ => none }
def holdApartRow : OpenClaim := { program := "ytpdeopgmgeaglaa", sum := "d307c4965e03a4f0971d6f471611fc944232360a8cd781d3ba95a03b33667fea", func := "skyway/skywaykeep4.HoldApart", spec := "holdApart", unfollowed := true, recurses := true, apart := false }
def HoldApartSaid : Prop := holdApartRow.holds Try.pinned (OpenSpec.ofChange holdApartSpec)

/-- ITS FALSE NEIGHBOUR: 'it returns false'. Refute it at one input. -/
def holdApartWrong : ChangeSpec := { name := "holdApart", fn := fun _ => fun
  | [d] => { results := [.lit (.bool false)], args := [d] }
  | _ => none }
def HoldApartWrongFalsely : Prop := holdApartRow.holds Try.pinned (OpenSpec.ofChange holdApartWrong)

/-- 'skywaykeep4.HoldDown': WHATEVER THE INPUT: true; the input reads as it did. -/
def holdDownSpec : ChangeSpec := { name := "holdDown", fn := fun _ => fun
  | [d] => { results := [.lit (.bool true)], args := [d] }
  | _ => none }
def holdDownRow : OpenClaim := { program := "ytpdeopgmgeaglaa", sum := "d307c4965e03a4f0971d6f471611fc944232360a8cd781d3ba95a03b33667fea", func := "skyway/skywaykeep4.HoldDown", spec := "holdDown", unfollowed := true, recurses := true, apart := false }
def HoldDownSaid : Prop := holdDownRow.holds Try.pinned (OpenSpec.ofChange holdDownSpec)

/-- ITS FALSE NEIGHBOUR: 'it returns false'. Refute it at one input. -/
def holdDownWrong : ChangeSpec := { name := "holdDown", fn := fun _ => fun
  | [d] => { results := [.lit (.bool false)], args := [d] }
  | _ => none }
def HoldDownWrongFalsely : Prop := holdDownRow.holds Try.pinned (OpenSpec.ofChange holdDownWrong)

/-- 'skywaykeep4.HoldOrder': WHATEVER THE INPUT: true; the input reads as it did. -/
def holdOrderSpec : ChangeSpec := { name := "holdOrder", fn := fun _ => fun
  | [d] => { results := [.lit (.bool true)], args := [d] }
  | _ => none }
def holdOrderRow : OpenClaim := { program := "ytpdeopgmgeaglaa", sum := "d307c4965e03a4f0971d6f471611fc944232360a8cd781d3ba95a03b33667fea", func := "skyway/skywaykeep4.HoldOrder", spec := "holdOrder", unfollowed := true, recurses := true, apart := false }
def HoldOrderSaid : Prop := holdOrderRow.holds Try.pinned (OpenSpec.ofChange holdOrderSpec)

/-- ITS FALSE NEIGHBOUR: 'it returns false'. Refute it at one input. -/
def holdOrderWrong : ChangeSpec := { name := "holdOrder", fn := fun _ => fun
  | [d] => { results := [.lit (.bool false)], args := [d] }
  | _ => none }
def HoldOrderWrongFalsely : Prop := holdOrderRow.holds Try.pinned (OpenSpec.ofChange holdOrderWrong)

/- THE SECOND FORM. 'bulk': how many values and letters a reading holds, each counted each time it is reached (what is shared counts as often as it is met; a slice's spare places count too). A statement '..UptoSaid' is the law's where the arguments, and the package variables that the reading takes, are together of bulk at most 1048576: NARROWER than '..Said'. Prove '..Said' where nothing that the law and all that it calls make is longer than what came in: it says more and counts as full. Else prove '..UptoSaid'. A law counts once. -/
mutual
def uptoBulk {H : Type} : DataW H → Nat
  | .lit (.string bytes) => bytes.length + 1
  | .lit _ => 1
  | .nil => 1
  | .ptr d => uptoBulk d + 1
  | .slice elems spare => uptoBulkAll elems + uptoBulkAll spare + 1
  | .agg parts => uptoBulkAll parts + 1
  | .iface _ d => uptoBulk d + 1
  | .map entries => uptoBulkEntries entries + 1
  | .held _ => 1
def uptoBulkAll {H : Type} : List (DataW H) → Nat
  | [] => 0
  | d :: r => uptoBulk d + uptoBulkAll r
def uptoBulkEntries {H : Type} : List (Lit × DataW H) → Nat
  | [] => 0
  | x :: r => uptoBulkEntry x + uptoBulkEntries r
def uptoBulkEntry {H : Type} : Lit × DataW H → Nat
  | (.string bytes, d) => bytes.length + uptoBulk d + 1
  | (_, d) => uptoBulk d + 1
 end
def uptoSmall : (H : Type) → List (DataW H) → Bool := fun _ ds => decide (uptoBulkAll ds ≤ 1048576)
def OpenSpec.upto (s : _root_.Go.ChangeSpec) : _root_.Go.OpenSpec := { _root_.Go.OpenSpec.ofChange s with cond := some uptoSmall }

/-- 'skywaykeep4.HoldWaits', WHERE WHAT IT READS IS OF BULK AT MOST 1048576: true; the input reads as it did. -/
def holdWaitsUptoRow : OpenClaim := { program := "ytpdeopgmgeaglaa", sum := "d307c4965e03a4f0971d6f471611fc944232360a8cd781d3ba95a03b33667fea", func := "skyway/skywaykeep4.HoldWaits", spec := "holdWaits", unfollowed := true, recurses := true, apart := false, narrowed := true }
def HoldWaitsUptoSaid : Prop := holdWaitsUptoRow.holds Try.pinned (OpenSpec.upto holdWaitsSpec)

/-- 'skywaykeep4.HoldApart', WHERE WHAT IT READS IS OF BULK AT MOST 1048576: true; the input reads as it did. -/
def holdApartUptoRow : OpenClaim := { program := "ytpdeopgmgeaglaa", sum := "d307c4965e03a4f0971d6f471611fc944232360a8cd781d3ba95a03b33667fea", func := "skyway/skywaykeep4.HoldApart", spec := "holdApart", unfollowed := true, recurses := true, apart := false, narrowed := true }
def HoldApartUptoSaid : Prop := holdApartUptoRow.holds Try.pinned (OpenSpec.upto holdApartSpec)

/-- 'skywaykeep4.HoldDown', WHERE WHAT IT READS IS OF BULK AT MOST 1048576: true; the input reads as it did. -/
def holdDownUptoRow : OpenClaim := { program := "ytpdeopgmgeaglaa", sum := "d307c4965e03a4f0971d6f471611fc944232360a8cd781d3ba95a03b33667fea", func := "skyway/skywaykeep4.HoldDown", spec := "holdDown", unfollowed := true, recurses := true, apart := false, narrowed := true }
def HoldDownUptoSaid : Prop := holdDownUptoRow.holds Try.pinned (OpenSpec.upto holdDownSpec)

/-- 'skywaykeep4.HoldOrder', WHERE WHAT IT READS IS OF BULK AT MOST 1048576: true; the input reads as it did. -/
def holdOrderUptoRow : OpenClaim := { program := "ytpdeopgmgeaglaa", sum := "d307c4965e03a4f0971d6f471611fc944232360a8cd781d3ba95a03b33667fea", func := "skyway/skywaykeep4.HoldOrder", spec := "holdOrder", unfollowed := true, recurses := true, apart := false, narrowed := true }
def HoldOrderUptoSaid : Prop := holdOrderUptoRow.holds Try.pinned (OpenSpec.upto holdOrderSpec)

end Rows
end Go.Proofs.Ytpdeopgmgeaglaa
