/-
  DERIVED. GIVEN WITH THE SEED: THE CARDS: each row of YtlfapbkaknikpaaDoorRows.lean that lists a variable, with what it lists TIED to the program's text (the seventh form; the later family's looks); each row that meets fmt, with fmt's text TOLD by the authors' own Lean function (tested against real Go, not proved from fmt's source: count such statements apart). THE CARD IS WHAT COUNTS. Prove the row's statement (the work); the ties are given (YtlfapbkaknikpaaDoorTie.lean); close each card by the builder's one call (the guide's Derived/Test/ToyasCard.lean, 'card_holds'). Laid BY PROGRAM, IN A SANDBOX (cutbox-door.mjs). By AI agents, Wed Nov 11 2026. No macro, syntax, notation, axiom, sorry.
-/
import Derived.Test.YtlfapbkaknikpaaDoorRows
import GoSem.ClaimSeven
namespace Go.Proofs.YtlfapbkaknikpaaDoor
namespace Rows

/-- THE TIED CARD OF 'skywaykeep4.StripChanged'. -/
def stripChangedCard : Claim7 := { stood := { row := stripChangedRow, standIns := [], harness := (true, "6fcf76016de47e6f8cbb88d1d2b459c2c30ee138bbaf83d8f3b2b228e3558b28"), looks := false }, kinds := [], alts := [], laidByText := true, laidKinds := [.data, .data, .data], laidTests := true, laidLooks := .later }
def StripChangedCardSaid : Prop := Claim7.holds Tryd.pinned (.plain (OpenSpec.ofChange stripChangedSpec)) stripChangedCard

/-- THE TIED CARD OF 'skywaykeep4.StripBays'. -/
def stripBaysCard : Claim7 := { stood := { row := stripBaysRow, standIns := [], harness := (true, "6fcf76016de47e6f8cbb88d1d2b459c2c30ee138bbaf83d8f3b2b228e3558b28"), looks := false }, kinds := [], alts := [], laidByText := true, laidKinds := [.data, .data, .data], laidTests := true, laidLooks := .later }
def StripBaysCardSaid : Prop := Claim7.holds Tryd.pinned (.plain (OpenSpec.ofChange stripBaysSpec)) stripBaysCard

/-- THE SECOND FORM's CARD OF 'skywaykeep4.StripChanged'. -/
def stripChangedUptoCard : Claim7 := { stood := { row := stripChangedUptoRow, standIns := [], harness := (true, "6fcf76016de47e6f8cbb88d1d2b459c2c30ee138bbaf83d8f3b2b228e3558b28"), looks := false }, kinds := [], alts := [], laidByText := true, laidKinds := [.data, .data, .data], laidTests := true, laidLooks := .later }
def StripChangedUptoCardSaid : Prop := Claim7.holds Tryd.pinned (.plain (OpenSpec.upto stripChangedSpec)) stripChangedUptoCard

/-- THE SECOND FORM's CARD OF 'skywaykeep4.StripBays'. -/
def stripBaysUptoCard : Claim7 := { stood := { row := stripBaysUptoRow, standIns := [], harness := (true, "6fcf76016de47e6f8cbb88d1d2b459c2c30ee138bbaf83d8f3b2b228e3558b28"), looks := false }, kinds := [], alts := [], laidByText := true, laidKinds := [.data, .data, .data], laidTests := true, laidLooks := .later }
def StripBaysUptoCardSaid : Prop := Claim7.holds Tryd.pinned (.plain (OpenSpec.upto stripBaysSpec)) stripBaysUptoCard
end Rows
end Go.Proofs.YtlfapbkaknikpaaDoor
