/-
  DERIVED. GIVEN WITH THE SEED: THE CARDS: each row of YtaegeaajhbfkgaaGreatDoorRows.lean that lists a variable, with what it lists TIED to the program's text (the seventh form; the later family's looks); each row that meets fmt, with fmt's text TOLD by the authors' own Lean function (tested against real Go, not proved from fmt's source: count such statements apart). THE CARD IS WHAT COUNTS. Prove the row's statement (the work); the ties are given (YtaegeaajhbfkgaaGreatDoorTie.lean); close each card by the builder's one call (the guide's Derived/Test/ToyasCard.lean, 'card_holds'). Laid BY PROGRAM, IN A SANDBOX (cutbox-door.mjs). By AI agents, Wed Nov 11 2026. No macro, syntax, notation, axiom, sorry.
-/
import Derived.Test.YtaegeaajhbfkgaaGreatDoorRows
import GoSem.ClaimSeven
namespace Go.Proofs.YtaegeaajhbfkgaaGreatDoor
namespace Rows

/-- THE TIED CARD OF 'skywaykeep4.CentreLands'. -/
def centreLandsCard : Claim7 := { stood := { row := centreLandsRow, standIns := [], harness := (true, "b04f4bc368db86cd971aec41a7157e911366481ce75ba95dee482ec0a4a43df3"), looks := false }, kinds := [], alts := [], laidByText := true, laidKinds := [.data, .data, .data, .data, .data, .pinned], laidTests := true, laidLooks := .later }
def CentreLandsCardSaid : Prop := Claim7.holds Tryz.pinned (.plain (OpenSpec.ofChange centreLandsSpec)) centreLandsCard

/-- THE TIED CARD OF 'skywaykeep4.CentreJoins'. -/
def centreJoinsCard : Claim7 := { stood := { row := centreJoinsRow, standIns := [], harness := (true, "b04f4bc368db86cd971aec41a7157e911366481ce75ba95dee482ec0a4a43df3"), looks := false }, kinds := [], alts := [], laidByText := true, laidKinds := [.data, .data, .data, .data, .data, .pinned], laidTests := true, laidLooks := .later }
def CentreJoinsCardSaid : Prop := Claim7.holds Tryz.pinned (.plain (OpenSpec.ofChange centreJoinsSpec)) centreJoinsCard

/-- THE TIED CARD OF 'skywaykeep4.CentreOwned'. -/
def centreOwnedCard : Claim7 := { stood := { row := centreOwnedRow, standIns := [], harness := (true, "b04f4bc368db86cd971aec41a7157e911366481ce75ba95dee482ec0a4a43df3"), looks := false }, kinds := [], alts := [], laidByText := true, laidKinds := [.data, .data, .data, .data, .data, .pinned], laidTests := true, laidLooks := .later }
def CentreOwnedCardSaid : Prop := Claim7.holds Tryz.pinned (.plain (OpenSpec.ofChange centreOwnedSpec)) centreOwnedCard

/-- THE TIED CARD OF 'skywaykeep4.CentreSafe'. -/
def centreSafeCard : Claim7 := { stood := { row := centreSafeRow, standIns := [], harness := (true, "b04f4bc368db86cd971aec41a7157e911366481ce75ba95dee482ec0a4a43df3"), looks := false }, kinds := [], alts := [], laidByText := true, laidKinds := [.data, .data, .data, .data, .data, .pinned], laidTests := true, laidLooks := .later }
def CentreSafeCardSaid : Prop := Claim7.holds Tryz.pinned (.plain (OpenSpec.ofChange centreSafeSpec)) centreSafeCard

/-- THE TIED CARD OF 'skywaykeep4.CentreRepeats'. -/
def centreRepeatsCard : Claim7 := { stood := { row := centreRepeatsRow, standIns := [], harness := (true, "b04f4bc368db86cd971aec41a7157e911366481ce75ba95dee482ec0a4a43df3"), looks := false }, kinds := [], alts := [], laidByText := true, laidKinds := [.data, .data, .data, .data, .data, .pinned], laidTests := true, laidLooks := .later }
def CentreRepeatsCardSaid : Prop := Claim7.holds Tryz.pinned (.plain (OpenSpec.ofChange centreRepeatsSpec)) centreRepeatsCard

/-- THE TIED CARD OF 'skywaykeep4.CentreRefuses'. -/
def centreRefusesCard : Claim7 := { stood := { row := centreRefusesRow, standIns := [], harness := (true, "b04f4bc368db86cd971aec41a7157e911366481ce75ba95dee482ec0a4a43df3"), looks := false }, kinds := [], alts := [], laidByText := true, laidKinds := [.data, .data, .data, .data, .data, .pinned], laidTests := true, laidLooks := .later }
def CentreRefusesCardSaid : Prop := Claim7.holds Tryz.pinned (.plain (OpenSpec.ofChange centreRefusesSpec)) centreRefusesCard

/-- THE TIED CARD OF 'skywaykeep4.CentreShifted'. -/
def centreShiftedCard : Claim7 := { stood := { row := centreShiftedRow, standIns := [], harness := (true, "b04f4bc368db86cd971aec41a7157e911366481ce75ba95dee482ec0a4a43df3"), looks := false }, kinds := [], alts := [], laidByText := true, laidKinds := [.data, .data, .data, .data, .data, .pinned], laidTests := true, laidLooks := .later }
def CentreShiftedCardSaid : Prop := Claim7.holds Tryz.pinned (.plain (OpenSpec.ofChange centreShiftedSpec)) centreShiftedCard

/-- THE TIED CARD OF 'skywaykeep4.CentreDelayed'. -/
def centreDelayedCard : Claim7 := { stood := { row := centreDelayedRow, standIns := [], harness := (true, "b04f4bc368db86cd971aec41a7157e911366481ce75ba95dee482ec0a4a43df3"), looks := false }, kinds := [], alts := [], laidByText := true, laidKinds := [.data, .data, .data, .data, .data, .pinned], laidTests := true, laidLooks := .later }
def CentreDelayedCardSaid : Prop := Claim7.holds Tryz.pinned (.plain (OpenSpec.ofChange centreDelayedSpec)) centreDelayedCard

/-- THE SECOND FORM's CARD OF 'skywaykeep4.CentreLands'. -/
def centreLandsUptoCard : Claim7 := { stood := { row := centreLandsUptoRow, standIns := [], harness := (true, "b04f4bc368db86cd971aec41a7157e911366481ce75ba95dee482ec0a4a43df3"), looks := false }, kinds := [], alts := [], laidByText := true, laidKinds := [.data, .data, .data, .data, .data, .pinned], laidTests := true, laidLooks := .later }
def CentreLandsUptoCardSaid : Prop := Claim7.holds Tryz.pinned (.plain (OpenSpec.upto centreLandsSpec)) centreLandsUptoCard

/-- THE SECOND FORM's CARD OF 'skywaykeep4.CentreJoins'. -/
def centreJoinsUptoCard : Claim7 := { stood := { row := centreJoinsUptoRow, standIns := [], harness := (true, "b04f4bc368db86cd971aec41a7157e911366481ce75ba95dee482ec0a4a43df3"), looks := false }, kinds := [], alts := [], laidByText := true, laidKinds := [.data, .data, .data, .data, .data, .pinned], laidTests := true, laidLooks := .later }
def CentreJoinsUptoCardSaid : Prop := Claim7.holds Tryz.pinned (.plain (OpenSpec.upto centreJoinsSpec)) centreJoinsUptoCard

/-- THE SECOND FORM's CARD OF 'skywaykeep4.CentreOwned'. -/
def centreOwnedUptoCard : Claim7 := { stood := { row := centreOwnedUptoRow, standIns := [], harness := (true, "b04f4bc368db86cd971aec41a7157e911366481ce75ba95dee482ec0a4a43df3"), looks := false }, kinds := [], alts := [], laidByText := true, laidKinds := [.data, .data, .data, .data, .data, .pinned], laidTests := true, laidLooks := .later }
def CentreOwnedUptoCardSaid : Prop := Claim7.holds Tryz.pinned (.plain (OpenSpec.upto centreOwnedSpec)) centreOwnedUptoCard

/-- THE SECOND FORM's CARD OF 'skywaykeep4.CentreSafe'. -/
def centreSafeUptoCard : Claim7 := { stood := { row := centreSafeUptoRow, standIns := [], harness := (true, "b04f4bc368db86cd971aec41a7157e911366481ce75ba95dee482ec0a4a43df3"), looks := false }, kinds := [], alts := [], laidByText := true, laidKinds := [.data, .data, .data, .data, .data, .pinned], laidTests := true, laidLooks := .later }
def CentreSafeUptoCardSaid : Prop := Claim7.holds Tryz.pinned (.plain (OpenSpec.upto centreSafeSpec)) centreSafeUptoCard

/-- THE SECOND FORM's CARD OF 'skywaykeep4.CentreRepeats'. -/
def centreRepeatsUptoCard : Claim7 := { stood := { row := centreRepeatsUptoRow, standIns := [], harness := (true, "b04f4bc368db86cd971aec41a7157e911366481ce75ba95dee482ec0a4a43df3"), looks := false }, kinds := [], alts := [], laidByText := true, laidKinds := [.data, .data, .data, .data, .data, .pinned], laidTests := true, laidLooks := .later }
def CentreRepeatsUptoCardSaid : Prop := Claim7.holds Tryz.pinned (.plain (OpenSpec.upto centreRepeatsSpec)) centreRepeatsUptoCard

/-- THE SECOND FORM's CARD OF 'skywaykeep4.CentreRefuses'. -/
def centreRefusesUptoCard : Claim7 := { stood := { row := centreRefusesUptoRow, standIns := [], harness := (true, "b04f4bc368db86cd971aec41a7157e911366481ce75ba95dee482ec0a4a43df3"), looks := false }, kinds := [], alts := [], laidByText := true, laidKinds := [.data, .data, .data, .data, .data, .pinned], laidTests := true, laidLooks := .later }
def CentreRefusesUptoCardSaid : Prop := Claim7.holds Tryz.pinned (.plain (OpenSpec.upto centreRefusesSpec)) centreRefusesUptoCard

/-- THE SECOND FORM's CARD OF 'skywaykeep4.CentreShifted'. -/
def centreShiftedUptoCard : Claim7 := { stood := { row := centreShiftedUptoRow, standIns := [], harness := (true, "b04f4bc368db86cd971aec41a7157e911366481ce75ba95dee482ec0a4a43df3"), looks := false }, kinds := [], alts := [], laidByText := true, laidKinds := [.data, .data, .data, .data, .data, .pinned], laidTests := true, laidLooks := .later }
def CentreShiftedUptoCardSaid : Prop := Claim7.holds Tryz.pinned (.plain (OpenSpec.upto centreShiftedSpec)) centreShiftedUptoCard

/-- THE SECOND FORM's CARD OF 'skywaykeep4.CentreDelayed'. -/
def centreDelayedUptoCard : Claim7 := { stood := { row := centreDelayedUptoRow, standIns := [], harness := (true, "b04f4bc368db86cd971aec41a7157e911366481ce75ba95dee482ec0a4a43df3"), looks := false }, kinds := [], alts := [], laidByText := true, laidKinds := [.data, .data, .data, .data, .data, .pinned], laidTests := true, laidLooks := .later }
def CentreDelayedUptoCardSaid : Prop := Claim7.holds Tryz.pinned (.plain (OpenSpec.upto centreDelayedSpec)) centreDelayedUptoCard
end Rows
end Go.Proofs.YtaegeaajhbfkgaaGreatDoor
