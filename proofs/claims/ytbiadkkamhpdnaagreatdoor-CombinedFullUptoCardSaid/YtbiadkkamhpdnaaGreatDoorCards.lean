/-
  DERIVED. GIVEN WITH THE SEED: THE CARDS: each row of YtbiadkkamhpdnaaGreatDoorRows.lean that lists a variable, with what it lists TIED to the program's text (the seventh form; the later family's looks); each row that meets fmt, with fmt's text TOLD by the authors' own Lean function (tested against real Go, not proved from fmt's source: count such statements apart). THE CARD IS WHAT COUNTS. Prove the row's statement (the work); the ties are given (YtbiadkkamhpdnaaGreatDoorTie.lean); close each card by the builder's one call (the guide's Derived/Test/ToyasCard.lean, 'card_holds'). Laid BY PROGRAM, IN A SANDBOX (cutbox-door.mjs). By AI agents, Wed Nov 11 2026. No macro, syntax, notation, axiom, sorry.
-/
import Derived.Test.YtbiadkkamhpdnaaGreatDoorRows
import GoSem.ClaimSeven
namespace Go.Proofs.YtbiadkkamhpdnaaGreatDoor
namespace Rows

/-- THE TIED CARD OF 'mergelenslaw14.PatchAny'. -/
def patchAnyCard : Claim7 := { stood := { row := patchAnyRow, standIns := [], harness := (true, "2462e95ea0fd5ef9c661f4e1d39064f6af6b29f0f48f43c8b4460dee82ba11ac"), looks := false }, kinds := [], alts := [], laidByText := true, laidKinds := [.data, .data, .data, .data, .pinned], laidTests := true, laidLooks := .later }
def PatchAnyCardSaid : Prop := Claim7.holds Tryz.pinned (.plain (OpenSpec.ofChange patchAnySpec)) patchAnyCard

/-- THE TIED CARD OF 'mergelenslaw14.PatchRestores'. -/
def patchRestoresCard : Claim7 := { stood := { row := patchRestoresRow, standIns := [], harness := (true, "2462e95ea0fd5ef9c661f4e1d39064f6af6b29f0f48f43c8b4460dee82ba11ac"), looks := false }, kinds := [], alts := [], laidByText := true, laidKinds := [.data, .data, .data, .data, .pinned], laidTests := true, laidLooks := .later }
def PatchRestoresCardSaid : Prop := Claim7.holds Tryz.pinned (.plain (OpenSpec.ofChange patchRestoresSpec)) patchRestoresCard

/-- THE TIED CARD OF 'mergelenslaw12.UnifiedChecks'. -/
def unifiedChecksCard : Claim7 := { stood := { row := unifiedChecksRow, standIns := [], harness := (true, "2462e95ea0fd5ef9c661f4e1d39064f6af6b29f0f48f43c8b4460dee82ba11ac"), looks := false }, kinds := [], alts := [], laidByText := true, laidKinds := [.data, .data, .data, .data, .pinned], laidTests := true, laidLooks := .later }
def UnifiedChecksCardSaid : Prop := Claim7.holds Tryz.pinned (.plain (OpenSpec.ofChange unifiedChecksSpec)) unifiedChecksCard

/-- THE TIED CARD OF 'mergelenslaw18.CombinedChecks'. -/
def combinedChecksCard : Claim7 := { stood := { row := combinedChecksRow, standIns := [], harness := (true, "2462e95ea0fd5ef9c661f4e1d39064f6af6b29f0f48f43c8b4460dee82ba11ac"), looks := false }, kinds := [], alts := [], laidByText := true, laidKinds := [.data, .data, .data, .data, .pinned], laidTests := true, laidLooks := .later }
def CombinedChecksCardSaid : Prop := Claim7.holds Tryz.pinned (.plain (OpenSpec.ofChange combinedChecksSpec)) combinedChecksCard

/-- THE TIED CARD OF 'mergelenslaw18.CombinedMakes'. -/
def combinedMakesCard : Claim7 := { stood := { row := combinedMakesRow, standIns := [], harness := (true, "2462e95ea0fd5ef9c661f4e1d39064f6af6b29f0f48f43c8b4460dee82ba11ac"), looks := false }, kinds := [], alts := [], laidByText := true, laidKinds := [.data, .data, .data, .data, .pinned], laidTests := true, laidLooks := .later }
def CombinedMakesCardSaid : Prop := Claim7.holds Tryz.pinned (.plain (OpenSpec.ofChange combinedMakesSpec)) combinedMakesCard

/-- THE TIED CARD OF 'mergelenslaw18.CombinedFull'. -/
def combinedFullCard : Claim7 := { stood := { row := combinedFullRow, standIns := [], harness := (true, "2462e95ea0fd5ef9c661f4e1d39064f6af6b29f0f48f43c8b4460dee82ba11ac"), looks := false }, kinds := [], alts := [], laidByText := true, laidKinds := [.data, .data, .data, .data, .pinned], laidTests := true, laidLooks := .later }
def CombinedFullCardSaid : Prop := Claim7.holds Tryz.pinned (.plain (OpenSpec.ofChange combinedFullSpec)) combinedFullCard

/-- THE TIED CARD OF 'mergelenslaw18.CombinedShows'. -/
def combinedShowsCard : Claim7 := { stood := { row := combinedShowsRow, standIns := [], harness := (true, "2462e95ea0fd5ef9c661f4e1d39064f6af6b29f0f48f43c8b4460dee82ba11ac"), looks := false }, kinds := [], alts := [], laidByText := true, laidKinds := [.data, .data, .data, .data, .pinned], laidTests := true, laidLooks := .later }
def CombinedShowsCardSaid : Prop := Claim7.holds Tryz.pinned (.plain (OpenSpec.ofChange combinedShowsSpec)) combinedShowsCard

/-- THE TIED CARD OF 'mergelenslaw18.CombinedHeaders'. -/
def combinedHeadersCard : Claim7 := { stood := { row := combinedHeadersRow, standIns := [], harness := (true, "2462e95ea0fd5ef9c661f4e1d39064f6af6b29f0f48f43c8b4460dee82ba11ac"), looks := false }, kinds := [], alts := [], laidByText := true, laidKinds := [.data, .data, .data, .data, .pinned], laidTests := true, laidLooks := .later }
def CombinedHeadersCardSaid : Prop := Claim7.holds Tryz.pinned (.plain (OpenSpec.ofChange combinedHeadersSpec)) combinedHeadersCard

/-- THE TIED CARD OF 'mergelenslaw20.ProjectTable'. -/
def projectTableCard : Claim7 := { stood := { row := projectTableRow, standIns := [], harness := (true, "2462e95ea0fd5ef9c661f4e1d39064f6af6b29f0f48f43c8b4460dee82ba11ac"), looks := false }, kinds := [], alts := [], laidByText := true, laidKinds := [.data, .data, .data, .data, .pinned], laidTests := true, laidLooks := .later }
def ProjectTableCardSaid : Prop := Claim7.holds Tryz.pinned (.plain (OpenSpec.ofChange projectTableSpec)) projectTableCard

/-- THE TIED CARD OF 'mergelenslaw20.ProjectTables'. -/
def projectTablesCard : Claim7 := { stood := { row := projectTablesRow, standIns := [], harness := (true, "2462e95ea0fd5ef9c661f4e1d39064f6af6b29f0f48f43c8b4460dee82ba11ac"), looks := false }, kinds := [], alts := [], laidByText := true, laidKinds := [.data, .data, .data, .data, .pinned], laidTests := true, laidLooks := .later }
def ProjectTablesCardSaid : Prop := Claim7.holds Tryz.pinned (.plain (OpenSpec.ofChange projectTablesSpec)) projectTablesCard

/-- THE TIED CARD OF 'mergelenslaw20.ProjectRestores'. -/
def projectRestoresCard : Claim7 := { stood := { row := projectRestoresRow, standIns := [], harness := (true, "2462e95ea0fd5ef9c661f4e1d39064f6af6b29f0f48f43c8b4460dee82ba11ac"), looks := false }, kinds := [], alts := [], laidByText := true, laidKinds := [.data, .data, .data, .data, .pinned], laidTests := true, laidLooks := .later }
def ProjectRestoresCardSaid : Prop := Claim7.holds Tryz.pinned (.plain (OpenSpec.ofChange projectRestoresSpec)) projectRestoresCard

/-- THE TIED CARD OF 'mergelenslaw20.ProjectParsed'. -/
def projectParsedCard : Claim7 := { stood := { row := projectParsedRow, standIns := [], harness := (true, "2462e95ea0fd5ef9c661f4e1d39064f6af6b29f0f48f43c8b4460dee82ba11ac"), looks := false }, kinds := [], alts := [], laidByText := true, laidKinds := [.data, .data, .data, .data, .pinned], laidTests := true, laidLooks := .later }
def ProjectParsedCardSaid : Prop := Claim7.holds Tryz.pinned (.plain (OpenSpec.ofChange projectParsedSpec)) projectParsedCard

/-- THE TIED CARD OF 'mergelenslaw20.ProjectSides'. -/
def projectSidesCard : Claim7 := { stood := { row := projectSidesRow, standIns := [], harness := (true, "2462e95ea0fd5ef9c661f4e1d39064f6af6b29f0f48f43c8b4460dee82ba11ac"), looks := false }, kinds := [], alts := [], laidByText := true, laidKinds := [.data, .data, .data, .data, .pinned], laidTests := true, laidLooks := .later }
def ProjectSidesCardSaid : Prop := Claim7.holds Tryz.pinned (.plain (OpenSpec.ofChange projectSidesSpec)) projectSidesCard

/-- THE SECOND FORM's CARD OF 'mergelenslaw14.PatchAny'. -/
def patchAnyUptoCard : Claim7 := { stood := { row := patchAnyUptoRow, standIns := [], harness := (true, "2462e95ea0fd5ef9c661f4e1d39064f6af6b29f0f48f43c8b4460dee82ba11ac"), looks := false }, kinds := [], alts := [], laidByText := true, laidKinds := [.data, .data, .data, .data, .pinned], laidTests := true, laidLooks := .later }
def PatchAnyUptoCardSaid : Prop := Claim7.holds Tryz.pinned (.plain (OpenSpec.upto patchAnySpec)) patchAnyUptoCard

/-- THE SECOND FORM's CARD OF 'mergelenslaw14.PatchRestores'. -/
def patchRestoresUptoCard : Claim7 := { stood := { row := patchRestoresUptoRow, standIns := [], harness := (true, "2462e95ea0fd5ef9c661f4e1d39064f6af6b29f0f48f43c8b4460dee82ba11ac"), looks := false }, kinds := [], alts := [], laidByText := true, laidKinds := [.data, .data, .data, .data, .pinned], laidTests := true, laidLooks := .later }
def PatchRestoresUptoCardSaid : Prop := Claim7.holds Tryz.pinned (.plain (OpenSpec.upto patchRestoresSpec)) patchRestoresUptoCard

/-- THE SECOND FORM's CARD OF 'mergelenslaw12.UnifiedChecks'. -/
def unifiedChecksUptoCard : Claim7 := { stood := { row := unifiedChecksUptoRow, standIns := [], harness := (true, "2462e95ea0fd5ef9c661f4e1d39064f6af6b29f0f48f43c8b4460dee82ba11ac"), looks := false }, kinds := [], alts := [], laidByText := true, laidKinds := [.data, .data, .data, .data, .pinned], laidTests := true, laidLooks := .later }
def UnifiedChecksUptoCardSaid : Prop := Claim7.holds Tryz.pinned (.plain (OpenSpec.upto unifiedChecksSpec)) unifiedChecksUptoCard

/-- THE SECOND FORM's CARD OF 'mergelenslaw18.CombinedChecks'. -/
def combinedChecksUptoCard : Claim7 := { stood := { row := combinedChecksUptoRow, standIns := [], harness := (true, "2462e95ea0fd5ef9c661f4e1d39064f6af6b29f0f48f43c8b4460dee82ba11ac"), looks := false }, kinds := [], alts := [], laidByText := true, laidKinds := [.data, .data, .data, .data, .pinned], laidTests := true, laidLooks := .later }
def CombinedChecksUptoCardSaid : Prop := Claim7.holds Tryz.pinned (.plain (OpenSpec.upto combinedChecksSpec)) combinedChecksUptoCard

/-- THE SECOND FORM's CARD OF 'mergelenslaw18.CombinedMakes'. -/
def combinedMakesUptoCard : Claim7 := { stood := { row := combinedMakesUptoRow, standIns := [], harness := (true, "2462e95ea0fd5ef9c661f4e1d39064f6af6b29f0f48f43c8b4460dee82ba11ac"), looks := false }, kinds := [], alts := [], laidByText := true, laidKinds := [.data, .data, .data, .data, .pinned], laidTests := true, laidLooks := .later }
def CombinedMakesUptoCardSaid : Prop := Claim7.holds Tryz.pinned (.plain (OpenSpec.upto combinedMakesSpec)) combinedMakesUptoCard

/-- THE SECOND FORM's CARD OF 'mergelenslaw18.CombinedFull'. -/
def combinedFullUptoCard : Claim7 := { stood := { row := combinedFullUptoRow, standIns := [], harness := (true, "2462e95ea0fd5ef9c661f4e1d39064f6af6b29f0f48f43c8b4460dee82ba11ac"), looks := false }, kinds := [], alts := [], laidByText := true, laidKinds := [.data, .data, .data, .data, .pinned], laidTests := true, laidLooks := .later }
def CombinedFullUptoCardSaid : Prop := Claim7.holds Tryz.pinned (.plain (OpenSpec.upto combinedFullSpec)) combinedFullUptoCard

/-- THE SECOND FORM's CARD OF 'mergelenslaw18.CombinedShows'. -/
def combinedShowsUptoCard : Claim7 := { stood := { row := combinedShowsUptoRow, standIns := [], harness := (true, "2462e95ea0fd5ef9c661f4e1d39064f6af6b29f0f48f43c8b4460dee82ba11ac"), looks := false }, kinds := [], alts := [], laidByText := true, laidKinds := [.data, .data, .data, .data, .pinned], laidTests := true, laidLooks := .later }
def CombinedShowsUptoCardSaid : Prop := Claim7.holds Tryz.pinned (.plain (OpenSpec.upto combinedShowsSpec)) combinedShowsUptoCard

/-- THE SECOND FORM's CARD OF 'mergelenslaw18.CombinedHeaders'. -/
def combinedHeadersUptoCard : Claim7 := { stood := { row := combinedHeadersUptoRow, standIns := [], harness := (true, "2462e95ea0fd5ef9c661f4e1d39064f6af6b29f0f48f43c8b4460dee82ba11ac"), looks := false }, kinds := [], alts := [], laidByText := true, laidKinds := [.data, .data, .data, .data, .pinned], laidTests := true, laidLooks := .later }
def CombinedHeadersUptoCardSaid : Prop := Claim7.holds Tryz.pinned (.plain (OpenSpec.upto combinedHeadersSpec)) combinedHeadersUptoCard

/-- THE SECOND FORM's CARD OF 'mergelenslaw20.ProjectTable'. -/
def projectTableUptoCard : Claim7 := { stood := { row := projectTableUptoRow, standIns := [], harness := (true, "2462e95ea0fd5ef9c661f4e1d39064f6af6b29f0f48f43c8b4460dee82ba11ac"), looks := false }, kinds := [], alts := [], laidByText := true, laidKinds := [.data, .data, .data, .data, .pinned], laidTests := true, laidLooks := .later }
def ProjectTableUptoCardSaid : Prop := Claim7.holds Tryz.pinned (.plain (OpenSpec.upto projectTableSpec)) projectTableUptoCard

/-- THE SECOND FORM's CARD OF 'mergelenslaw20.ProjectTables'. -/
def projectTablesUptoCard : Claim7 := { stood := { row := projectTablesUptoRow, standIns := [], harness := (true, "2462e95ea0fd5ef9c661f4e1d39064f6af6b29f0f48f43c8b4460dee82ba11ac"), looks := false }, kinds := [], alts := [], laidByText := true, laidKinds := [.data, .data, .data, .data, .pinned], laidTests := true, laidLooks := .later }
def ProjectTablesUptoCardSaid : Prop := Claim7.holds Tryz.pinned (.plain (OpenSpec.upto projectTablesSpec)) projectTablesUptoCard

/-- THE SECOND FORM's CARD OF 'mergelenslaw20.ProjectRestores'. -/
def projectRestoresUptoCard : Claim7 := { stood := { row := projectRestoresUptoRow, standIns := [], harness := (true, "2462e95ea0fd5ef9c661f4e1d39064f6af6b29f0f48f43c8b4460dee82ba11ac"), looks := false }, kinds := [], alts := [], laidByText := true, laidKinds := [.data, .data, .data, .data, .pinned], laidTests := true, laidLooks := .later }
def ProjectRestoresUptoCardSaid : Prop := Claim7.holds Tryz.pinned (.plain (OpenSpec.upto projectRestoresSpec)) projectRestoresUptoCard

/-- THE SECOND FORM's CARD OF 'mergelenslaw20.ProjectParsed'. -/
def projectParsedUptoCard : Claim7 := { stood := { row := projectParsedUptoRow, standIns := [], harness := (true, "2462e95ea0fd5ef9c661f4e1d39064f6af6b29f0f48f43c8b4460dee82ba11ac"), looks := false }, kinds := [], alts := [], laidByText := true, laidKinds := [.data, .data, .data, .data, .pinned], laidTests := true, laidLooks := .later }
def ProjectParsedUptoCardSaid : Prop := Claim7.holds Tryz.pinned (.plain (OpenSpec.upto projectParsedSpec)) projectParsedUptoCard

/-- THE SECOND FORM's CARD OF 'mergelenslaw20.ProjectSides'. -/
def projectSidesUptoCard : Claim7 := { stood := { row := projectSidesUptoRow, standIns := [], harness := (true, "2462e95ea0fd5ef9c661f4e1d39064f6af6b29f0f48f43c8b4460dee82ba11ac"), looks := false }, kinds := [], alts := [], laidByText := true, laidKinds := [.data, .data, .data, .data, .pinned], laidTests := true, laidLooks := .later }
def ProjectSidesUptoCardSaid : Prop := Claim7.holds Tryz.pinned (.plain (OpenSpec.upto projectSidesSpec)) projectSidesUptoCard
end Rows
end Go.Proofs.YtbiadkkamhpdnaaGreatDoor
