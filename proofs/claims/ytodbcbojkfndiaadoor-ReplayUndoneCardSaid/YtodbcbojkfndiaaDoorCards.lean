/-
  DERIVED. GIVEN WITH THE SEED: THE CARDS: each row of YtodbcbojkfndiaaDoorRows.lean that lists a variable, with what it lists TIED to the program's text (the seventh form; the later family's looks); each row that meets fmt, with fmt's text TOLD by the authors' own Lean function (tested against real Go, not proved from fmt's source: count such statements apart). THE CARD IS WHAT COUNTS. Prove the row's statement (the work); the ties are given (YtodbcbojkfndiaaDoorTie.lean); close each card by the builder's one call (the guide's Derived/Test/ToyasCard.lean, 'card_holds'). Laid BY PROGRAM, IN A SANDBOX (cutbox-door.mjs). By AI agents, Wed Nov 11 2026. No macro, syntax, notation, axiom, sorry.
-/
import Derived.Test.YtodbcbojkfndiaaDoorRows
import GoSem.ClaimSeven
namespace Go.Proofs.YtodbcbojkfndiaaDoor
namespace Rows

/-- THE TIED CARD OF 'skywaykeep4.ReplayParts'. -/
def replayPartsCard : Claim7 := { stood := { row := replayPartsRow, standIns := [], harness := (true, "55c48d7af79f81507494c2637afa3c27c5a78d6b2e18ba58c6462eff042d152b"), looks := true }, kinds := [], alts := [], laidByText := true, laidKinds := [.data, .data, .data, .data, .sentinel, .sentinel, .pinned], laidTests := true, laidLooks := .later }
def ReplayPartsCardSaid : Prop := Claim7.holds Tryd.pinned (.plain (OpenSpec.ofChange replayPartsSpec)) replayPartsCard

/-- THE TIED CARD OF 'skywaykeep4.ReplayGrows'. -/
def replayGrowsCard : Claim7 := { stood := { row := replayGrowsRow, standIns := [], harness := (true, "55c48d7af79f81507494c2637afa3c27c5a78d6b2e18ba58c6462eff042d152b"), looks := true }, kinds := [], alts := [], laidByText := true, laidKinds := [.data, .data, .data, .data, .sentinel, .sentinel, .pinned], laidTests := true, laidLooks := .later }
def ReplayGrowsCardSaid : Prop := Claim7.holds Tryd.pinned (.plain (OpenSpec.ofChange replayGrowsSpec)) replayGrowsCard

/-- THE TIED CARD OF 'skywaykeep4.ReplayUndone'. -/
def replayUndoneCard : Claim7 := { stood := { row := replayUndoneRow, standIns := [], harness := (true, "55c48d7af79f81507494c2637afa3c27c5a78d6b2e18ba58c6462eff042d152b"), looks := true }, kinds := [], alts := [], laidByText := true, laidKinds := [.data, .data, .data, .data, .sentinel, .sentinel, .pinned], laidTests := true, laidLooks := .later }
def ReplayUndoneCardSaid : Prop := Claim7.holds Tryd.pinned (.plain (OpenSpec.ofChange replayUndoneSpec)) replayUndoneCard

/-- THE TIED CARD OF 'skywaykeep4.ReplayNotes'. -/
def replayNotesCard : Claim7 := { stood := { row := replayNotesRow, standIns := [], harness := (true, "55c48d7af79f81507494c2637afa3c27c5a78d6b2e18ba58c6462eff042d152b"), looks := true }, kinds := [], alts := [], laidByText := true, laidKinds := [.data, .data, .data, .data, .sentinel, .sentinel, .pinned], laidTests := true, laidLooks := .later }
def ReplayNotesCardSaid : Prop := Claim7.holds Tryd.pinned (.plain (OpenSpec.ofChange replayNotesSpec)) replayNotesCard

/-- THE SECOND FORM's CARD OF 'skywaykeep4.ReplayParts'. -/
def replayPartsUptoCard : Claim7 := { stood := { row := replayPartsUptoRow, standIns := [], harness := (true, "55c48d7af79f81507494c2637afa3c27c5a78d6b2e18ba58c6462eff042d152b"), looks := true }, kinds := [], alts := [], laidByText := true, laidKinds := [.data, .data, .data, .data, .sentinel, .sentinel, .pinned], laidTests := true, laidLooks := .later }
def ReplayPartsUptoCardSaid : Prop := Claim7.holds Tryd.pinned (.plain (OpenSpec.upto replayPartsSpec)) replayPartsUptoCard

/-- THE SECOND FORM's CARD OF 'skywaykeep4.ReplayGrows'. -/
def replayGrowsUptoCard : Claim7 := { stood := { row := replayGrowsUptoRow, standIns := [], harness := (true, "55c48d7af79f81507494c2637afa3c27c5a78d6b2e18ba58c6462eff042d152b"), looks := true }, kinds := [], alts := [], laidByText := true, laidKinds := [.data, .data, .data, .data, .sentinel, .sentinel, .pinned], laidTests := true, laidLooks := .later }
def ReplayGrowsUptoCardSaid : Prop := Claim7.holds Tryd.pinned (.plain (OpenSpec.upto replayGrowsSpec)) replayGrowsUptoCard

/-- THE SECOND FORM's CARD OF 'skywaykeep4.ReplayUndone'. -/
def replayUndoneUptoCard : Claim7 := { stood := { row := replayUndoneUptoRow, standIns := [], harness := (true, "55c48d7af79f81507494c2637afa3c27c5a78d6b2e18ba58c6462eff042d152b"), looks := true }, kinds := [], alts := [], laidByText := true, laidKinds := [.data, .data, .data, .data, .sentinel, .sentinel, .pinned], laidTests := true, laidLooks := .later }
def ReplayUndoneUptoCardSaid : Prop := Claim7.holds Tryd.pinned (.plain (OpenSpec.upto replayUndoneSpec)) replayUndoneUptoCard

/-- THE SECOND FORM's CARD OF 'skywaykeep4.ReplayNotes'. -/
def replayNotesUptoCard : Claim7 := { stood := { row := replayNotesUptoRow, standIns := [], harness := (true, "55c48d7af79f81507494c2637afa3c27c5a78d6b2e18ba58c6462eff042d152b"), looks := true }, kinds := [], alts := [], laidByText := true, laidKinds := [.data, .data, .data, .data, .sentinel, .sentinel, .pinned], laidTests := true, laidLooks := .later }
def ReplayNotesUptoCardSaid : Prop := Claim7.holds Tryd.pinned (.plain (OpenSpec.upto replayNotesSpec)) replayNotesUptoCard
end Rows
end Go.Proofs.YtodbcbojkfndiaaDoor
