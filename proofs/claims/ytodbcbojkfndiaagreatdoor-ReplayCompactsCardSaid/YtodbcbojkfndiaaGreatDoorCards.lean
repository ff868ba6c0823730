/-
  DERIVED. GIVEN WITH THE SEED: THE CARDS: each row of YtodbcbojkfndiaaGreatDoorRows.lean that lists a variable, with what it lists TIED to the program's text (the seventh form; the later family's looks); each row that meets fmt, with fmt's text TOLD by the authors' own Lean function (tested against real Go, not proved from fmt's source: count such statements apart). THE CARD IS WHAT COUNTS. Prove the row's statement (the work); the ties are given (YtodbcbojkfndiaaGreatDoorTie.lean); close each card by the builder's one call (the guide's Derived/Test/ToyasCard.lean, 'card_holds'). Laid BY PROGRAM, IN A SANDBOX (cutbox-door.mjs). By AI agents, Wed Nov 11 2026. No macro, syntax, notation, axiom, sorry.
-/
import Derived.Test.YtodbcbojkfndiaaGreatDoorRows
import GoSem.ClaimSeven
namespace Go.Proofs.YtodbcbojkfndiaaGreatDoor
namespace Rows

/-- THE TIED CARD OF 'skywaykeep4.ReplayCompacts'. -/
def replayCompactsCard : Claim7 := { stood := { row := replayCompactsRow, standIns := [], harness := (true, "415ec45711f5375bc703a4e640d5fcda47c9796c621b0b2b0704a4f1c63d4995"), looks := true }, kinds := [], alts := [], laidByText := true, laidKinds := [.data, .data, .data, .data, .sentinel, .sentinel, .pinned], laidTests := true, laidLooks := .later }
def ReplayCompactsCardSaid : Prop := Claim7.holds Tryz.pinned (.plain (OpenSpec.ofChange replayCompactsSpec)) replayCompactsCard

/-- THE SECOND FORM's CARD OF 'skywaykeep4.ReplayCompacts'. -/
def replayCompactsUptoCard : Claim7 := { stood := { row := replayCompactsUptoRow, standIns := [], harness := (true, "415ec45711f5375bc703a4e640d5fcda47c9796c621b0b2b0704a4f1c63d4995"), looks := true }, kinds := [], alts := [], laidByText := true, laidKinds := [.data, .data, .data, .data, .sentinel, .sentinel, .pinned], laidTests := true, laidLooks := .later }
def ReplayCompactsUptoCardSaid : Prop := Claim7.holds Tryz.pinned (.plain (OpenSpec.upto replayCompactsSpec)) replayCompactsUptoCard
end Rows
end Go.Proofs.YtodbcbojkfndiaaGreatDoor
