/-
  DERIVED. GIVEN WITH THE SEED: THE CARDS: each row of YtjjidificdmnmaaGreatDoorRows.lean that lists a variable, with what it lists TIED to the program's text (the seventh form; the later family's looks); each row that meets fmt, with fmt's text TOLD by the authors' own Lean function (tested against real Go, not proved from fmt's source: count such statements apart). THE CARD IS WHAT COUNTS. Prove the row's statement (the work); the ties are given (YtjjidificdmnmaaGreatDoorTie.lean); close each card by the builder's one call (the guide's Derived/Test/ToyasCard.lean, 'card_holds'). Laid BY PROGRAM, IN A SANDBOX (cutbox-door.mjs). By AI agents, Wed Nov 11 2026. No macro, syntax, notation, axiom, sorry.
-/
import Derived.Test.YtjjidificdmnmaaGreatDoorRows
import GoSem.ClaimSeven
namespace Go.Proofs.YtjjidificdmnmaaGreatDoor
namespace Rows

/-- THE TIED CARD OF 'mergelenslaw14.PatchAny'. -/
def patchAnyCard : Claim7 := { stood := { row := patchAnyRow, standIns := [], harness := (true, "9457c0a4460cc39905471c16aee654f39488501742a69e2b9b3c53e3c69a800a"), looks := false }, kinds := [], alts := [], laidByText := true, laidKinds := [.data, .data, .data, .data, .pinned], laidTests := true, laidLooks := .later }
def PatchAnyCardSaid : Prop := Claim7.holds Tryz.pinned (.plain (OpenSpec.ofChange patchAnySpec)) patchAnyCard

/-- THE TIED CARD OF 'mergelenslaw14.PatchRestores'. -/
def patchRestoresCard : Claim7 := { stood := { row := patchRestoresRow, standIns := [], harness := (true, "9457c0a4460cc39905471c16aee654f39488501742a69e2b9b3c53e3c69a800a"), looks := false }, kinds := [], alts := [], laidByText := true, laidKinds := [.data, .data, .data, .data, .pinned], laidTests := true, laidLooks := .later }
def PatchRestoresCardSaid : Prop := Claim7.holds Tryz.pinned (.plain (OpenSpec.ofChange patchRestoresSpec)) patchRestoresCard

/-- THE TIED CARD OF 'mergelenslaw14.PatchTwice'. -/
def patchTwiceCard : Claim7 := { stood := { row := patchTwiceRow, standIns := [], harness := (true, "9457c0a4460cc39905471c16aee654f39488501742a69e2b9b3c53e3c69a800a"), looks := false }, kinds := [], alts := [], laidByText := true, laidKinds := [.data, .data, .data, .data, .pinned], laidTests := true, laidLooks := .later }
def PatchTwiceCardSaid : Prop := Claim7.holds Tryz.pinned (.plain (OpenSpec.ofChange patchTwiceSpec)) patchTwiceCard

/-- THE TIED CARD OF 'mergelenslaw13.StrictParses'. -/
def strictParsesCard : Claim7 := { stood := { row := strictParsesRow, standIns := [], harness := (true, "9457c0a4460cc39905471c16aee654f39488501742a69e2b9b3c53e3c69a800a"), looks := false }, kinds := [], alts := [], laidByText := true, laidKinds := [.data, .data, .data, .data, .pinned], laidTests := true, laidLooks := .later }
def StrictParsesCardSaid : Prop := Claim7.holds Tryz.pinned (.plain (OpenSpec.ofChange strictParsesSpec)) strictParsesCard

/-- THE TIED CARD OF 'mergelenslaw13.StrictAny'. -/
def strictAnyCard : Claim7 := { stood := { row := strictAnyRow, standIns := [], harness := (true, "9457c0a4460cc39905471c16aee654f39488501742a69e2b9b3c53e3c69a800a"), looks := false }, kinds := [], alts := [], laidByText := true, laidKinds := [.data, .data, .data, .data, .pinned], laidTests := true, laidLooks := .later }
def StrictAnyCardSaid : Prop := Claim7.holds Tryz.pinned (.plain (OpenSpec.ofChange strictAnySpec)) strictAnyCard

/-- THE TIED CARD OF 'mergelenslaw13.StrictLossless'. -/
def strictLosslessCard : Claim7 := { stood := { row := strictLosslessRow, standIns := [], harness := (true, "9457c0a4460cc39905471c16aee654f39488501742a69e2b9b3c53e3c69a800a"), looks := false }, kinds := [], alts := [], laidByText := true, laidKinds := [.data, .data, .data, .data, .pinned], laidTests := true, laidLooks := .later }
def StrictLosslessCardSaid : Prop := Claim7.holds Tryz.pinned (.plain (OpenSpec.ofChange strictLosslessSpec)) strictLosslessCard

/-- THE TIED CARD OF 'mergelenslaw13.StrictRoundTrip'. -/
def strictRoundTripCard : Claim7 := { stood := { row := strictRoundTripRow, standIns := [], harness := (true, "9457c0a4460cc39905471c16aee654f39488501742a69e2b9b3c53e3c69a800a"), looks := false }, kinds := [], alts := [], laidByText := true, laidKinds := [.data, .data, .data, .data, .pinned], laidTests := true, laidLooks := .later }
def StrictRoundTripCardSaid : Prop := Claim7.holds Tryz.pinned (.plain (OpenSpec.ofChange strictRoundTripSpec)) strictRoundTripCard

/-- THE TIED CARD OF 'mergelenslaw12.UnifiedMakes'. -/
def unifiedMakesCard : Claim7 := { stood := { row := unifiedMakesRow, standIns := [], harness := (true, "9457c0a4460cc39905471c16aee654f39488501742a69e2b9b3c53e3c69a800a"), looks := false }, kinds := [], alts := [], laidByText := true, laidKinds := [.data, .data, .data, .data, .pinned], laidTests := true, laidLooks := .later }
def UnifiedMakesCardSaid : Prop := Claim7.holds Tryz.pinned (.plain (OpenSpec.ofChange unifiedMakesSpec)) unifiedMakesCard

/-- THE TIED CARD OF 'mergelenslaw12.UnifiedContents'. -/
def unifiedContentsCard : Claim7 := { stood := { row := unifiedContentsRow, standIns := [], harness := (true, "9457c0a4460cc39905471c16aee654f39488501742a69e2b9b3c53e3c69a800a"), looks := false }, kinds := [], alts := [], laidByText := true, laidKinds := [.data, .data, .data, .data, .pinned], laidTests := true, laidLooks := .later }
def UnifiedContentsCardSaid : Prop := Claim7.holds Tryz.pinned (.plain (OpenSpec.ofChange unifiedContentsSpec)) unifiedContentsCard

/-- THE TIED CARD OF 'mergelenslaw12.UnifiedChecks'. -/
def unifiedChecksCard : Claim7 := { stood := { row := unifiedChecksRow, standIns := [], harness := (true, "9457c0a4460cc39905471c16aee654f39488501742a69e2b9b3c53e3c69a800a"), looks := false }, kinds := [], alts := [], laidByText := true, laidKinds := [.data, .data, .data, .data, .pinned], laidTests := true, laidLooks := .later }
def UnifiedChecksCardSaid : Prop := Claim7.holds Tryz.pinned (.plain (OpenSpec.ofChange unifiedChecksSpec)) unifiedChecksCard

/-- THE TIED CARD OF 'mergelenslaw12.UnifiedMinimal'. -/
def unifiedMinimalCard : Claim7 := { stood := { row := unifiedMinimalRow, standIns := [], harness := (true, "9457c0a4460cc39905471c16aee654f39488501742a69e2b9b3c53e3c69a800a"), looks := false }, kinds := [], alts := [], laidByText := true, laidKinds := [.data, .data, .data, .data, .pinned], laidTests := true, laidLooks := .later }
def UnifiedMinimalCardSaid : Prop := Claim7.holds Tryz.pinned (.plain (OpenSpec.ofChange unifiedMinimalSpec)) unifiedMinimalCard

/-- THE TIED CARD OF 'mergelenslaw14.PatchMakes'. -/
def patchMakesCard : Claim7 := { stood := { row := patchMakesRow, standIns := [], harness := (true, "9457c0a4460cc39905471c16aee654f39488501742a69e2b9b3c53e3c69a800a"), looks := false }, kinds := [], alts := [], laidByText := true, laidKinds := [.data, .data, .data, .data, .pinned], laidTests := true, laidLooks := .later }
def PatchMakesCardSaid : Prop := Claim7.holds Tryz.pinned (.plain (OpenSpec.ofChange patchMakesSpec)) patchMakesCard

/-- THE TIED CARD OF 'mergelenslaw14.PatchWritten'. -/
def patchWrittenCard : Claim7 := { stood := { row := patchWrittenRow, standIns := [], harness := (true, "9457c0a4460cc39905471c16aee654f39488501742a69e2b9b3c53e3c69a800a"), looks := false }, kinds := [], alts := [], laidByText := true, laidKinds := [.data, .data, .data, .data, .pinned], laidTests := true, laidLooks := .later }
def PatchWrittenCardSaid : Prop := Claim7.holds Tryz.pinned (.plain (OpenSpec.ofChange patchWrittenSpec)) patchWrittenCard

/-- THE SECOND FORM's CARD OF 'mergelenslaw14.PatchAny'. -/
def patchAnyUptoCard : Claim7 := { stood := { row := patchAnyUptoRow, standIns := [], harness := (true, "9457c0a4460cc39905471c16aee654f39488501742a69e2b9b3c53e3c69a800a"), looks := false }, kinds := [], alts := [], laidByText := true, laidKinds := [.data, .data, .data, .data, .pinned], laidTests := true, laidLooks := .later }
def PatchAnyUptoCardSaid : Prop := Claim7.holds Tryz.pinned (.plain (OpenSpec.upto patchAnySpec)) patchAnyUptoCard

/-- THE SECOND FORM's CARD OF 'mergelenslaw14.PatchRestores'. -/
def patchRestoresUptoCard : Claim7 := { stood := { row := patchRestoresUptoRow, standIns := [], harness := (true, "9457c0a4460cc39905471c16aee654f39488501742a69e2b9b3c53e3c69a800a"), looks := false }, kinds := [], alts := [], laidByText := true, laidKinds := [.data, .data, .data, .data, .pinned], laidTests := true, laidLooks := .later }
def PatchRestoresUptoCardSaid : Prop := Claim7.holds Tryz.pinned (.plain (OpenSpec.upto patchRestoresSpec)) patchRestoresUptoCard

/-- THE SECOND FORM's CARD OF 'mergelenslaw14.PatchTwice'. -/
def patchTwiceUptoCard : Claim7 := { stood := { row := patchTwiceUptoRow, standIns := [], harness := (true, "9457c0a4460cc39905471c16aee654f39488501742a69e2b9b3c53e3c69a800a"), looks := false }, kinds := [], alts := [], laidByText := true, laidKinds := [.data, .data, .data, .data, .pinned], laidTests := true, laidLooks := .later }
def PatchTwiceUptoCardSaid : Prop := Claim7.holds Tryz.pinned (.plain (OpenSpec.upto patchTwiceSpec)) patchTwiceUptoCard

/-- THE SECOND FORM's CARD OF 'mergelenslaw13.StrictParses'. -/
def strictParsesUptoCard : Claim7 := { stood := { row := strictParsesUptoRow, standIns := [], harness := (true, "9457c0a4460cc39905471c16aee654f39488501742a69e2b9b3c53e3c69a800a"), looks := false }, kinds := [], alts := [], laidByText := true, laidKinds := [.data, .data, .data, .data, .pinned], laidTests := true, laidLooks := .later }
def StrictParsesUptoCardSaid : Prop := Claim7.holds Tryz.pinned (.plain (OpenSpec.upto strictParsesSpec)) strictParsesUptoCard

/-- THE SECOND FORM's CARD OF 'mergelenslaw13.StrictAny'. -/
def strictAnyUptoCard : Claim7 := { stood := { row := strictAnyUptoRow, standIns := [], harness := (true, "9457c0a4460cc39905471c16aee654f39488501742a69e2b9b3c53e3c69a800a"), looks := false }, kinds := [], alts := [], laidByText := true, laidKinds := [.data, .data, .data, .data, .pinned], laidTests := true, laidLooks := .later }
def StrictAnyUptoCardSaid : Prop := Claim7.holds Tryz.pinned (.plain (OpenSpec.upto strictAnySpec)) strictAnyUptoCard

/-- THE SECOND FORM's CARD OF 'mergelenslaw13.StrictLossless'. -/
def strictLosslessUptoCard : Claim7 := { stood := { row := strictLosslessUptoRow, standIns := [], harness := (true, "9457c0a4460cc39905471c16aee654f39488501742a69e2b9b3c53e3c69a800a"), looks := false }, kinds := [], alts := [], laidByText := true, laidKinds := [.data, .data, .data, .data, .pinned], laidTests := true, laidLooks := .later }
def StrictLosslessUptoCardSaid : Prop := Claim7.holds Tryz.pinned (.plain (OpenSpec.upto strictLosslessSpec)) strictLosslessUptoCard

/-- THE SECOND FORM's CARD OF 'mergelenslaw13.StrictRoundTrip'. -/
def strictRoundTripUptoCard : Claim7 := { stood := { row := strictRoundTripUptoRow, standIns := [], harness := (true, "9457c0a4460cc39905471c16aee654f39488501742a69e2b9b3c53e3c69a800a"), looks := false }, kinds := [], alts := [], laidByText := true, laidKinds := [.data, .data, .data, .data, .pinned], laidTests := true, laidLooks := .later }
def StrictRoundTripUptoCardSaid : Prop := Claim7.holds Tryz.pinned (.plain (OpenSpec.upto strictRoundTripSpec)) strictRoundTripUptoCard

/-- THE SECOND FORM's CARD OF 'mergelenslaw12.UnifiedMakes'. -/
def unifiedMakesUptoCard : Claim7 := { stood := { row := unifiedMakesUptoRow, standIns := [], harness := (true, "9457c0a4460cc39905471c16aee654f39488501742a69e2b9b3c53e3c69a800a"), looks := false }, kinds := [], alts := [], laidByText := true, laidKinds := [.data, .data, .data, .data, .pinned], laidTests := true, laidLooks := .later }
def UnifiedMakesUptoCardSaid : Prop := Claim7.holds Tryz.pinned (.plain (OpenSpec.upto unifiedMakesSpec)) unifiedMakesUptoCard

/-- THE SECOND FORM's CARD OF 'mergelenslaw12.UnifiedContents'. -/
def unifiedContentsUptoCard : Claim7 := { stood := { row := unifiedContentsUptoRow, standIns := [], harness := (true, "9457c0a4460cc39905471c16aee654f39488501742a69e2b9b3c53e3c69a800a"), looks := false }, kinds := [], alts := [], laidByText := true, laidKinds := [.data, .data, .data, .data, .pinned], laidTests := true, laidLooks := .later }
def UnifiedContentsUptoCardSaid : Prop := Claim7.holds Tryz.pinned (.plain (OpenSpec.upto unifiedContentsSpec)) unifiedContentsUptoCard

/-- THE SECOND FORM's CARD OF 'mergelenslaw12.UnifiedChecks'. -/
def unifiedChecksUptoCard : Claim7 := { stood := { row := unifiedChecksUptoRow, standIns := [], harness := (true, "9457c0a4460cc39905471c16aee654f39488501742a69e2b9b3c53e3c69a800a"), looks := false }, kinds := [], alts := [], laidByText := true, laidKinds := [.data, .data, .data, .data, .pinned], laidTests := true, laidLooks := .later }
def UnifiedChecksUptoCardSaid : Prop := Claim7.holds Tryz.pinned (.plain (OpenSpec.upto unifiedChecksSpec)) unifiedChecksUptoCard

/-- THE SECOND FORM's CARD OF 'mergelenslaw12.UnifiedMinimal'. -/
def unifiedMinimalUptoCard : Claim7 := { stood := { row := unifiedMinimalUptoRow, standIns := [], harness := (true, "9457c0a4460cc39905471c16aee654f39488501742a69e2b9b3c53e3c69a800a"), looks := false }, kinds := [], alts := [], laidByText := true, laidKinds := [.data, .data, .data, .data, .pinned], laidTests := true, laidLooks := .later }
def UnifiedMinimalUptoCardSaid : Prop := Claim7.holds Tryz.pinned (.plain (OpenSpec.upto unifiedMinimalSpec)) unifiedMinimalUptoCard

/-- THE SECOND FORM's CARD OF 'mergelenslaw14.PatchMakes'. -/
def patchMakesUptoCard : Claim7 := { stood := { row := patchMakesUptoRow, standIns := [], harness := (true, "9457c0a4460cc39905471c16aee654f39488501742a69e2b9b3c53e3c69a800a"), looks := false }, kinds := [], alts := [], laidByText := true, laidKinds := [.data, .data, .data, .data, .pinned], laidTests := true, laidLooks := .later }
def PatchMakesUptoCardSaid : Prop := Claim7.holds Tryz.pinned (.plain (OpenSpec.upto patchMakesSpec)) patchMakesUptoCard

/-- THE SECOND FORM's CARD OF 'mergelenslaw14.PatchWritten'. -/
def patchWrittenUptoCard : Claim7 := { stood := { row := patchWrittenUptoRow, standIns := [], harness := (true, "9457c0a4460cc39905471c16aee654f39488501742a69e2b9b3c53e3c69a800a"), looks := false }, kinds := [], alts := [], laidByText := true, laidKinds := [.data, .data, .data, .data, .pinned], laidTests := true, laidLooks := .later }
def PatchWrittenUptoCardSaid : Prop := Claim7.holds Tryz.pinned (.plain (OpenSpec.upto patchWrittenSpec)) patchWrittenUptoCard
end Rows
end Go.Proofs.YtjjidificdmnmaaGreatDoor
