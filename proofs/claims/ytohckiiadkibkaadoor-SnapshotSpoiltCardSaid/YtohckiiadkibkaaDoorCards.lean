/-
  DERIVED. GIVEN WITH THE SEED: THE CARDS: each row of YtohckiiadkibkaaDoorRows.lean that lists a variable, with what it lists TIED to the program's text (the seventh form; the later family's looks); each row that meets fmt, with fmt's text TOLD by the authors' own Lean function (tested against real Go, not proved from fmt's source: count such statements apart). THE CARD IS WHAT COUNTS. Prove the row's statement (the work); the ties are given (YtohckiiadkibkaaDoorTie.lean); close each card by the builder's one call (the guide's Derived/Test/ToyasCard.lean, 'card_holds'). Laid BY PROGRAM, IN A SANDBOX (cutbox-door.mjs). By AI agents, Wed Nov 11 2026. No macro, syntax, notation, axiom, sorry.
-/
import Derived.Test.YtohckiiadkibkaaDoorRows
import GoSem.ClaimSeven
namespace Go.Proofs.YtohckiiadkibkaaDoor
namespace Rows

/-- THE TIED CARD OF 'skywaykeep4.SnapshotOrders'. -/
def snapshotOrdersCard : Claim7 := { stood := { row := snapshotOrdersRow, standIns := [], harness := (true, "daa39b8fe02e64e469381ca7a0fe47c0b0fab2fdd2206a31a336fc0f981eca3d"), looks := false }, kinds := [], alts := [], laidByText := true, laidKinds := [.data, .data, .data], laidTests := true, laidLooks := .later }
def SnapshotOrdersCardSaid : Prop := Claim7.holds Tryd.pinned (.plain (OpenSpec.ofChange snapshotOrdersSpec)) snapshotOrdersCard

/-- THE TIED CARD OF 'skywaykeep4.SnapshotGets'. -/
def snapshotGetsCard : Claim7 := { stood := { row := snapshotGetsRow, standIns := [], harness := (true, "daa39b8fe02e64e469381ca7a0fe47c0b0fab2fdd2206a31a336fc0f981eca3d"), looks := false }, kinds := [], alts := [], laidByText := true, laidKinds := [.data, .data, .data], laidTests := true, laidLooks := .later }
def SnapshotGetsCardSaid : Prop := Claim7.holds Tryd.pinned (.plain (OpenSpec.ofChange snapshotGetsSpec)) snapshotGetsCard

/-- THE TIED CARD OF 'skywaykeep4.SnapshotDiffs'. -/
def snapshotDiffsCard : Claim7 := { stood := { row := snapshotDiffsRow, standIns := [], harness := (true, "daa39b8fe02e64e469381ca7a0fe47c0b0fab2fdd2206a31a336fc0f981eca3d"), looks := false }, kinds := [], alts := [], laidByText := true, laidKinds := [.data, .data, .data], laidTests := true, laidLooks := .later }
def SnapshotDiffsCardSaid : Prop := Claim7.holds Tryd.pinned (.plain (OpenSpec.ofChange snapshotDiffsSpec)) snapshotDiffsCard

/-- THE TIED CARD OF 'skywaykeep4.SnapshotThrough'. -/
def snapshotThroughCard : Claim7 := { stood := { row := snapshotThroughRow, standIns := [], harness := (true, "daa39b8fe02e64e469381ca7a0fe47c0b0fab2fdd2206a31a336fc0f981eca3d"), looks := false }, kinds := [], alts := [], laidByText := true, laidKinds := [.data, .data, .data], laidTests := true, laidLooks := .later }
def SnapshotThroughCardSaid : Prop := Claim7.holds Tryd.pinned (.plain (OpenSpec.ofChange snapshotThroughSpec)) snapshotThroughCard

/-- THE TIED CARD OF 'skywaykeep4.SnapshotBack'. -/
def snapshotBackCard : Claim7 := { stood := { row := snapshotBackRow, standIns := [], harness := (true, "daa39b8fe02e64e469381ca7a0fe47c0b0fab2fdd2206a31a336fc0f981eca3d"), looks := false }, kinds := [], alts := [], laidByText := true, laidKinds := [.data, .data, .data, .data, .pinned], laidTests := true, laidLooks := .later }
def SnapshotBackCardSaid : Prop := Claim7.holds Tryd.pinned (.plain (OpenSpec.ofChange snapshotBackSpec)) snapshotBackCard

/-- THE TIED CARD OF 'skywaykeep4.SnapshotSpoilt'. -/
def snapshotSpoiltCard : Claim7 := { stood := { row := snapshotSpoiltRow, standIns := [], harness := (true, "daa39b8fe02e64e469381ca7a0fe47c0b0fab2fdd2206a31a336fc0f981eca3d"), looks := false }, kinds := [], alts := [], laidByText := true, laidKinds := [.data, .data, .data, .data, .pinned], laidTests := true, laidLooks := .later }
def SnapshotSpoiltCardSaid : Prop := Claim7.holds Tryd.pinned (.plain (OpenSpec.ofChange snapshotSpoiltSpec)) snapshotSpoiltCard

/-- THE SECOND FORM's CARD OF 'skywaykeep4.SnapshotOrders'. -/
def snapshotOrdersUptoCard : Claim7 := { stood := { row := snapshotOrdersUptoRow, standIns := [], harness := (true, "daa39b8fe02e64e469381ca7a0fe47c0b0fab2fdd2206a31a336fc0f981eca3d"), looks := false }, kinds := [], alts := [], laidByText := true, laidKinds := [.data, .data, .data], laidTests := true, laidLooks := .later }
def SnapshotOrdersUptoCardSaid : Prop := Claim7.holds Tryd.pinned (.plain (OpenSpec.upto snapshotOrdersSpec)) snapshotOrdersUptoCard

/-- THE SECOND FORM's CARD OF 'skywaykeep4.SnapshotGets'. -/
def snapshotGetsUptoCard : Claim7 := { stood := { row := snapshotGetsUptoRow, standIns := [], harness := (true, "daa39b8fe02e64e469381ca7a0fe47c0b0fab2fdd2206a31a336fc0f981eca3d"), looks := false }, kinds := [], alts := [], laidByText := true, laidKinds := [.data, .data, .data], laidTests := true, laidLooks := .later }
def SnapshotGetsUptoCardSaid : Prop := Claim7.holds Tryd.pinned (.plain (OpenSpec.upto snapshotGetsSpec)) snapshotGetsUptoCard

/-- THE SECOND FORM's CARD OF 'skywaykeep4.SnapshotDiffs'. -/
def snapshotDiffsUptoCard : Claim7 := { stood := { row := snapshotDiffsUptoRow, standIns := [], harness := (true, "daa39b8fe02e64e469381ca7a0fe47c0b0fab2fdd2206a31a336fc0f981eca3d"), looks := false }, kinds := [], alts := [], laidByText := true, laidKinds := [.data, .data, .data], laidTests := true, laidLooks := .later }
def SnapshotDiffsUptoCardSaid : Prop := Claim7.holds Tryd.pinned (.plain (OpenSpec.upto snapshotDiffsSpec)) snapshotDiffsUptoCard

/-- THE SECOND FORM's CARD OF 'skywaykeep4.SnapshotThrough'. -/
def snapshotThroughUptoCard : Claim7 := { stood := { row := snapshotThroughUptoRow, standIns := [], harness := (true, "daa39b8fe02e64e469381ca7a0fe47c0b0fab2fdd2206a31a336fc0f981eca3d"), looks := false }, kinds := [], alts := [], laidByText := true, laidKinds := [.data, .data, .data], laidTests := true, laidLooks := .later }
def SnapshotThroughUptoCardSaid : Prop := Claim7.holds Tryd.pinned (.plain (OpenSpec.upto snapshotThroughSpec)) snapshotThroughUptoCard

/-- THE SECOND FORM's CARD OF 'skywaykeep4.SnapshotBack'. -/
def snapshotBackUptoCard : Claim7 := { stood := { row := snapshotBackUptoRow, standIns := [], harness := (true, "daa39b8fe02e64e469381ca7a0fe47c0b0fab2fdd2206a31a336fc0f981eca3d"), looks := false }, kinds := [], alts := [], laidByText := true, laidKinds := [.data, .data, .data, .data, .pinned], laidTests := true, laidLooks := .later }
def SnapshotBackUptoCardSaid : Prop := Claim7.holds Tryd.pinned (.plain (OpenSpec.upto snapshotBackSpec)) snapshotBackUptoCard

/-- THE SECOND FORM's CARD OF 'skywaykeep4.SnapshotSpoilt'. -/
def snapshotSpoiltUptoCard : Claim7 := { stood := { row := snapshotSpoiltUptoRow, standIns := [], harness := (true, "daa39b8fe02e64e469381ca7a0fe47c0b0fab2fdd2206a31a336fc0f981eca3d"), looks := false }, kinds := [], alts := [], laidByText := true, laidKinds := [.data, .data, .data, .data, .pinned], laidTests := true, laidLooks := .later }
def SnapshotSpoiltUptoCardSaid : Prop := Claim7.holds Tryd.pinned (.plain (OpenSpec.upto snapshotSpoiltSpec)) snapshotSpoiltUptoCard
end Rows
end Go.Proofs.YtohckiiadkibkaaDoor
