/-
  DERIVED. GIVEN WITH THE SEED: THE CARDS: each row of YtldkkoecehdicaaDoorRows.lean that lists a variable, with what it lists TIED to the program's text (the seventh form; the later family's looks); each row that meets fmt, with fmt's text TOLD by the authors' own Lean function (tested against real Go, not proved from fmt's source: count such statements apart). THE CARD IS WHAT COUNTS. Prove the row's statement (the work); the ties are given (YtldkkoecehdicaaDoorTie.lean); close each card by the builder's one call (the guide's Derived/Test/ToyasCard.lean, 'card_holds'). Laid BY PROGRAM, IN A SANDBOX (cutbox-door.mjs). By AI agents, Wed Nov 11 2026. No macro, syntax, notation, axiom, sorry.
-/
import Derived.Test.YtldkkoecehdicaaDoorRows
import GoSem.ClaimSeven
namespace Go.Proofs.YtldkkoecehdicaaDoor
namespace Rows

/-- THE TIED CARD OF 'skywaykeep4.RecordCut'. -/
def recordCutCard : Claim7 := { stood := { row := recordCutRow, standIns := [], harness := (true, "9a3ecfb3c6a7dfa18f4fbde5b5fbaa99f35eba3c76547a6a7b88310c4cd1d083"), looks := false }, kinds := [], alts := [], laidByText := true, laidKinds := [.data, .data, .data, .data, .pinned], laidTests := true, laidLooks := .later }
def RecordCutCardSaid : Prop := Claim7.holds Tryd.pinned (.plain (OpenSpec.ofChange recordCutSpec)) recordCutCard

/-- THE TIED CARD OF 'skywaykeep4.RecordBack'. -/
def recordBackCard : Claim7 := { stood := { row := recordBackRow, standIns := [], harness := (true, "9a3ecfb3c6a7dfa18f4fbde5b5fbaa99f35eba3c76547a6a7b88310c4cd1d083"), looks := false }, kinds := [], alts := [], laidByText := true, laidKinds := [.data, .data, .data, .data, .pinned], laidTests := true, laidLooks := .later }
def RecordBackCardSaid : Prop := Claim7.holds Tryd.pinned (.plain (OpenSpec.ofChange recordBackSpec)) recordBackCard

/-- THE TIED CARD OF 'skywaykeep4.RecordContinues'. -/
def recordContinuesCard : Claim7 := { stood := { row := recordContinuesRow, standIns := [], harness := (true, "9a3ecfb3c6a7dfa18f4fbde5b5fbaa99f35eba3c76547a6a7b88310c4cd1d083"), looks := false }, kinds := [], alts := [], laidByText := true, laidKinds := [.data, .data, .data, .data, .pinned], laidTests := true, laidLooks := .later }
def RecordContinuesCardSaid : Prop := Claim7.holds Tryd.pinned (.plain (OpenSpec.ofChange recordContinuesSpec)) recordContinuesCard

/-- THE TIED CARD OF 'skywaykeep4.RecordFrom'. -/
def recordFromCard : Claim7 := { stood := { row := recordFromRow, standIns := [], harness := (true, "9a3ecfb3c6a7dfa18f4fbde5b5fbaa99f35eba3c76547a6a7b88310c4cd1d083"), looks := false }, kinds := [], alts := [], laidByText := true, laidKinds := [.data, .data, .data, .data, .pinned], laidTests := true, laidLooks := .later }
def RecordFromCardSaid : Prop := Claim7.holds Tryd.pinned (.plain (OpenSpec.ofChange recordFromSpec)) recordFromCard

/-- THE TIED CARD OF 'skywaykeep4.RecordTorn'. -/
def recordTornCard : Claim7 := { stood := { row := recordTornRow, standIns := [], harness := (true, "9a3ecfb3c6a7dfa18f4fbde5b5fbaa99f35eba3c76547a6a7b88310c4cd1d083"), looks := false }, kinds := [], alts := [], laidByText := true, laidKinds := [.data, .data, .data, .data, .pinned], laidTests := true, laidLooks := .later }
def RecordTornCardSaid : Prop := Claim7.holds Tryd.pinned (.plain (OpenSpec.ofChange recordTornSpec)) recordTornCard

/-- THE TIED CARD OF 'skywaykeep4.RecordSpoilt'. -/
def recordSpoiltCard : Claim7 := { stood := { row := recordSpoiltRow, standIns := [], harness := (true, "9a3ecfb3c6a7dfa18f4fbde5b5fbaa99f35eba3c76547a6a7b88310c4cd1d083"), looks := false }, kinds := [], alts := [], laidByText := true, laidKinds := [.data, .data, .data, .data, .pinned], laidTests := true, laidLooks := .later }
def RecordSpoiltCardSaid : Prop := Claim7.holds Tryd.pinned (.plain (OpenSpec.ofChange recordSpoiltSpec)) recordSpoiltCard

/-- THE SECOND FORM's CARD OF 'skywaykeep4.RecordCut'. -/
def recordCutUptoCard : Claim7 := { stood := { row := recordCutUptoRow, standIns := [], harness := (true, "9a3ecfb3c6a7dfa18f4fbde5b5fbaa99f35eba3c76547a6a7b88310c4cd1d083"), looks := false }, kinds := [], alts := [], laidByText := true, laidKinds := [.data, .data, .data, .data, .pinned], laidTests := true, laidLooks := .later }
def RecordCutUptoCardSaid : Prop := Claim7.holds Tryd.pinned (.plain (OpenSpec.upto recordCutSpec)) recordCutUptoCard

/-- THE SECOND FORM's CARD OF 'skywaykeep4.RecordBack'. -/
def recordBackUptoCard : Claim7 := { stood := { row := recordBackUptoRow, standIns := [], harness := (true, "9a3ecfb3c6a7dfa18f4fbde5b5fbaa99f35eba3c76547a6a7b88310c4cd1d083"), looks := false }, kinds := [], alts := [], laidByText := true, laidKinds := [.data, .data, .data, .data, .pinned], laidTests := true, laidLooks := .later }
def RecordBackUptoCardSaid : Prop := Claim7.holds Tryd.pinned (.plain (OpenSpec.upto recordBackSpec)) recordBackUptoCard

/-- THE SECOND FORM's CARD OF 'skywaykeep4.RecordContinues'. -/
def recordContinuesUptoCard : Claim7 := { stood := { row := recordContinuesUptoRow, standIns := [], harness := (true, "9a3ecfb3c6a7dfa18f4fbde5b5fbaa99f35eba3c76547a6a7b88310c4cd1d083"), looks := false }, kinds := [], alts := [], laidByText := true, laidKinds := [.data, .data, .data, .data, .pinned], laidTests := true, laidLooks := .later }
def RecordContinuesUptoCardSaid : Prop := Claim7.holds Tryd.pinned (.plain (OpenSpec.upto recordContinuesSpec)) recordContinuesUptoCard

/-- THE SECOND FORM's CARD OF 'skywaykeep4.RecordFrom'. -/
def recordFromUptoCard : Claim7 := { stood := { row := recordFromUptoRow, standIns := [], harness := (true, "9a3ecfb3c6a7dfa18f4fbde5b5fbaa99f35eba3c76547a6a7b88310c4cd1d083"), looks := false }, kinds := [], alts := [], laidByText := true, laidKinds := [.data, .data, .data, .data, .pinned], laidTests := true, laidLooks := .later }
def RecordFromUptoCardSaid : Prop := Claim7.holds Tryd.pinned (.plain (OpenSpec.upto recordFromSpec)) recordFromUptoCard

/-- THE SECOND FORM's CARD OF 'skywaykeep4.RecordTorn'. -/
def recordTornUptoCard : Claim7 := { stood := { row := recordTornUptoRow, standIns := [], harness := (true, "9a3ecfb3c6a7dfa18f4fbde5b5fbaa99f35eba3c76547a6a7b88310c4cd1d083"), looks := false }, kinds := [], alts := [], laidByText := true, laidKinds := [.data, .data, .data, .data, .pinned], laidTests := true, laidLooks := .later }
def RecordTornUptoCardSaid : Prop := Claim7.holds Tryd.pinned (.plain (OpenSpec.upto recordTornSpec)) recordTornUptoCard

/-- THE SECOND FORM's CARD OF 'skywaykeep4.RecordSpoilt'. -/
def recordSpoiltUptoCard : Claim7 := { stood := { row := recordSpoiltUptoRow, standIns := [], harness := (true, "9a3ecfb3c6a7dfa18f4fbde5b5fbaa99f35eba3c76547a6a7b88310c4cd1d083"), looks := false }, kinds := [], alts := [], laidByText := true, laidKinds := [.data, .data, .data, .data, .pinned], laidTests := true, laidLooks := .later }
def RecordSpoiltUptoCardSaid : Prop := Claim7.holds Tryd.pinned (.plain (OpenSpec.upto recordSpoiltSpec)) recordSpoiltUptoCard
end Rows
end Go.Proofs.YtldkkoecehdicaaDoor
