/-
  DERIVED. GIVEN WITH THE SEED: THE CARDS: each row of YtgejaedjnbjpoaaGreatDoorRows.lean that lists a variable, with what it lists TIED to the program's text (the seventh form; the later family's looks); each row that meets fmt, with fmt's text TOLD by the authors' own Lean function (tested against real Go, not proved from fmt's source: count such statements apart). THE CARD IS WHAT COUNTS. Prove the row's statement (the work); the ties are given (YtgejaedjnbjpoaaGreatDoorTie.lean); close each card by the builder's one call (the guide's Derived/Test/ToyasCard.lean, 'card_holds'). Laid BY PROGRAM, IN A SANDBOX (cutbox-door.mjs). By AI agents, Wed Nov 11 2026. No macro, syntax, notation, axiom, sorry.
-/
import Derived.Test.YtgejaedjnbjpoaaGreatDoorRows
import GoSem.ClaimSeven
namespace Go.Proofs.YtgejaedjnbjpoaaGreatDoor
namespace Rows

/-- THE TIED CARD OF 'mergelenslaw14.PatchAny'. -/
def patchAnyCard : Claim7 := { stood := { row := patchAnyRow, standIns := [], harness := (true, "c7c045ddfc96cfee21340ddf9060604e0d2f6bb8a0491f333cb625273999da7e"), looks := false }, kinds := [], alts := [], laidByText := true, laidKinds := [.data, .data, .data, .data, .pinned], laidTests := true, laidLooks := .later }
def PatchAnyCardSaid : Prop := Claim7.holds Tryz.pinned (.plain (OpenSpec.ofChange patchAnySpec)) patchAnyCard

/-- THE TIED CARD OF 'mergelenslaw14.PatchRestores'. -/
def patchRestoresCard : Claim7 := { stood := { row := patchRestoresRow, standIns := [], harness := (true, "c7c045ddfc96cfee21340ddf9060604e0d2f6bb8a0491f333cb625273999da7e"), looks := false }, kinds := [], alts := [], laidByText := true, laidKinds := [.data, .data, .data, .data, .pinned], laidTests := true, laidLooks := .later }
def PatchRestoresCardSaid : Prop := Claim7.holds Tryz.pinned (.plain (OpenSpec.ofChange patchRestoresSpec)) patchRestoresCard

/-- THE TIED CARD OF 'mergelenslaw14.PatchWritten'. -/
def patchWrittenCard : Claim7 := { stood := { row := patchWrittenRow, standIns := [], harness := (true, "c7c045ddfc96cfee21340ddf9060604e0d2f6bb8a0491f333cb625273999da7e"), looks := false }, kinds := [], alts := [], laidByText := true, laidKinds := [.data, .data, .data, .data, .pinned], laidTests := true, laidLooks := .later }
def PatchWrittenCardSaid : Prop := Claim7.holds Tryz.pinned (.plain (OpenSpec.ofChange patchWrittenSpec)) patchWrittenCard

/-- THE TIED CARD OF 'mergelenslaw12.UnifiedChecks'. -/
def unifiedChecksCard : Claim7 := { stood := { row := unifiedChecksRow, standIns := [], harness := (true, "c7c045ddfc96cfee21340ddf9060604e0d2f6bb8a0491f333cb625273999da7e"), looks := false }, kinds := [], alts := [], laidByText := true, laidKinds := [.data, .data, .data, .data, .pinned], laidTests := true, laidLooks := .later }
def UnifiedChecksCardSaid : Prop := Claim7.holds Tryz.pinned (.plain (OpenSpec.ofChange unifiedChecksSpec)) unifiedChecksCard

/-- THE TIED CARD OF 'mergelenslaw19.RecombineParses'. -/
def recombineParsesCard : Claim7 := { stood := { row := recombineParsesRow, standIns := [], harness := (true, "c7c045ddfc96cfee21340ddf9060604e0d2f6bb8a0491f333cb625273999da7e"), looks := false }, kinds := [], alts := [], laidByText := true, laidKinds := [.data, .data, .data, .data, .pinned], laidTests := true, laidLooks := .later }
def RecombineParsesCardSaid : Prop := Claim7.holds Tryz.pinned (.plain (OpenSpec.ofChange recombineParsesSpec)) recombineParsesCard

/-- THE TIED CARD OF 'mergelenslaw19.RecombineAny'. -/
def recombineAnyCard : Claim7 := { stood := { row := recombineAnyRow, standIns := [], harness := (true, "c7c045ddfc96cfee21340ddf9060604e0d2f6bb8a0491f333cb625273999da7e"), looks := false }, kinds := [], alts := [], laidByText := true, laidKinds := [.data, .data, .data, .data, .pinned], laidTests := true, laidLooks := .later }
def RecombineAnyCardSaid : Prop := Claim7.holds Tryz.pinned (.plain (OpenSpec.ofChange recombineAnySpec)) recombineAnyCard

/-- THE TIED CARD OF 'mergelenslaw19.RecombineLossless'. -/
def recombineLosslessCard : Claim7 := { stood := { row := recombineLosslessRow, standIns := [], harness := (true, "c7c045ddfc96cfee21340ddf9060604e0d2f6bb8a0491f333cb625273999da7e"), looks := false }, kinds := [], alts := [], laidByText := true, laidKinds := [.data, .data, .data, .data, .pinned], laidTests := true, laidLooks := .later }
def RecombineLosslessCardSaid : Prop := Claim7.holds Tryz.pinned (.plain (OpenSpec.ofChange recombineLosslessSpec)) recombineLosslessCard

/-- THE TIED CARD OF 'mergelenslaw19.RecombineRoundTrip'. -/
def recombineRoundTripCard : Claim7 := { stood := { row := recombineRoundTripRow, standIns := [], harness := (true, "c7c045ddfc96cfee21340ddf9060604e0d2f6bb8a0491f333cb625273999da7e"), looks := false }, kinds := [], alts := [], laidByText := true, laidKinds := [.data, .data, .data, .data, .pinned], laidTests := true, laidLooks := .later }
def RecombineRoundTripCardSaid : Prop := Claim7.holds Tryz.pinned (.plain (OpenSpec.ofChange recombineRoundTripSpec)) recombineRoundTripCard

/-- THE TIED CARD OF 'mergelenslaw18.CombinedChecks'. -/
def combinedChecksCard : Claim7 := { stood := { row := combinedChecksRow, standIns := [], harness := (true, "c7c045ddfc96cfee21340ddf9060604e0d2f6bb8a0491f333cb625273999da7e"), looks := false }, kinds := [], alts := [], laidByText := true, laidKinds := [.data, .data, .data, .data, .pinned], laidTests := true, laidLooks := .later }
def CombinedChecksCardSaid : Prop := Claim7.holds Tryz.pinned (.plain (OpenSpec.ofChange combinedChecksSpec)) combinedChecksCard

/-- THE TIED CARD OF 'mergelenslaw18.CombinedCuts'. -/
def combinedCutsCard : Claim7 := { stood := { row := combinedCutsRow, standIns := [], harness := (true, "c7c045ddfc96cfee21340ddf9060604e0d2f6bb8a0491f333cb625273999da7e"), looks := false }, kinds := [], alts := [], laidByText := true, laidKinds := [.data, .data, .data, .data, .pinned], laidTests := true, laidLooks := .later }
def CombinedCutsCardSaid : Prop := Claim7.holds Tryz.pinned (.plain (OpenSpec.ofChange combinedCutsSpec)) combinedCutsCard

/-- THE SECOND FORM's CARD OF 'mergelenslaw14.PatchAny'. -/
def patchAnyUptoCard : Claim7 := { stood := { row := patchAnyUptoRow, standIns := [], harness := (true, "c7c045ddfc96cfee21340ddf9060604e0d2f6bb8a0491f333cb625273999da7e"), looks := false }, kinds := [], alts := [], laidByText := true, laidKinds := [.data, .data, .data, .data, .pinned], laidTests := true, laidLooks := .later }
def PatchAnyUptoCardSaid : Prop := Claim7.holds Tryz.pinned (.plain (OpenSpec.upto patchAnySpec)) patchAnyUptoCard

/-- THE SECOND FORM's CARD OF 'mergelenslaw14.PatchRestores'. -/
def patchRestoresUptoCard : Claim7 := { stood := { row := patchRestoresUptoRow, standIns := [], harness := (true, "c7c045ddfc96cfee21340ddf9060604e0d2f6bb8a0491f333cb625273999da7e"), looks := false }, kinds := [], alts := [], laidByText := true, laidKinds := [.data, .data, .data, .data, .pinned], laidTests := true, laidLooks := .later }
def PatchRestoresUptoCardSaid : Prop := Claim7.holds Tryz.pinned (.plain (OpenSpec.upto patchRestoresSpec)) patchRestoresUptoCard

/-- THE SECOND FORM's CARD OF 'mergelenslaw14.PatchWritten'. -/
def patchWrittenUptoCard : Claim7 := { stood := { row := patchWrittenUptoRow, standIns := [], harness := (true, "c7c045ddfc96cfee21340ddf9060604e0d2f6bb8a0491f333cb625273999da7e"), looks := false }, kinds := [], alts := [], laidByText := true, laidKinds := [.data, .data, .data, .data, .pinned], laidTests := true, laidLooks := .later }
def PatchWrittenUptoCardSaid : Prop := Claim7.holds Tryz.pinned (.plain (OpenSpec.upto patchWrittenSpec)) patchWrittenUptoCard

/-- THE SECOND FORM's CARD OF 'mergelenslaw12.UnifiedChecks'. -/
def unifiedChecksUptoCard : Claim7 := { stood := { row := unifiedChecksUptoRow, standIns := [], harness := (true, "c7c045ddfc96cfee21340ddf9060604e0d2f6bb8a0491f333cb625273999da7e"), looks := false }, kinds := [], alts := [], laidByText := true, laidKinds := [.data, .data, .data, .data, .pinned], laidTests := true, laidLooks := .later }
def UnifiedChecksUptoCardSaid : Prop := Claim7.holds Tryz.pinned (.plain (OpenSpec.upto unifiedChecksSpec)) unifiedChecksUptoCard

/-- THE SECOND FORM's CARD OF 'mergelenslaw19.RecombineParses'. -/
def recombineParsesUptoCard : Claim7 := { stood := { row := recombineParsesUptoRow, standIns := [], harness := (true, "c7c045ddfc96cfee21340ddf9060604e0d2f6bb8a0491f333cb625273999da7e"), looks := false }, kinds := [], alts := [], laidByText := true, laidKinds := [.data, .data, .data, .data, .pinned], laidTests := true, laidLooks := .later }
def RecombineParsesUptoCardSaid : Prop := Claim7.holds Tryz.pinned (.plain (OpenSpec.upto recombineParsesSpec)) recombineParsesUptoCard

/-- THE SECOND FORM's CARD OF 'mergelenslaw19.RecombineAny'. -/
def recombineAnyUptoCard : Claim7 := { stood := { row := recombineAnyUptoRow, standIns := [], harness := (true, "c7c045ddfc96cfee21340ddf9060604e0d2f6bb8a0491f333cb625273999da7e"), looks := false }, kinds := [], alts := [], laidByText := true, laidKinds := [.data, .data, .data, .data, .pinned], laidTests := true, laidLooks := .later }
def RecombineAnyUptoCardSaid : Prop := Claim7.holds Tryz.pinned (.plain (OpenSpec.upto recombineAnySpec)) recombineAnyUptoCard

/-- THE SECOND FORM's CARD OF 'mergelenslaw19.RecombineLossless'. -/
def recombineLosslessUptoCard : Claim7 := { stood := { row := recombineLosslessUptoRow, standIns := [], harness := (true, "c7c045ddfc96cfee21340ddf9060604e0d2f6bb8a0491f333cb625273999da7e"), looks := false }, kinds := [], alts := [], laidByText := true, laidKinds := [.data, .data, .data, .data, .pinned], laidTests := true, laidLooks := .later }
def RecombineLosslessUptoCardSaid : Prop := Claim7.holds Tryz.pinned (.plain (OpenSpec.upto recombineLosslessSpec)) recombineLosslessUptoCard

/-- THE SECOND FORM's CARD OF 'mergelenslaw19.RecombineRoundTrip'. -/
def recombineRoundTripUptoCard : Claim7 := { stood := { row := recombineRoundTripUptoRow, standIns := [], harness := (true, "c7c045ddfc96cfee21340ddf9060604e0d2f6bb8a0491f333cb625273999da7e"), looks := false }, kinds := [], alts := [], laidByText := true, laidKinds := [.data, .data, .data, .data, .pinned], laidTests := true, laidLooks := .later }
def RecombineRoundTripUptoCardSaid : Prop := Claim7.holds Tryz.pinned (.plain (OpenSpec.upto recombineRoundTripSpec)) recombineRoundTripUptoCard

/-- THE SECOND FORM's CARD OF 'mergelenslaw18.CombinedChecks'. -/
def combinedChecksUptoCard : Claim7 := { stood := { row := combinedChecksUptoRow, standIns := [], harness := (true, "c7c045ddfc96cfee21340ddf9060604e0d2f6bb8a0491f333cb625273999da7e"), looks := false }, kinds := [], alts := [], laidByText := true, laidKinds := [.data, .data, .data, .data, .pinned], laidTests := true, laidLooks := .later }
def CombinedChecksUptoCardSaid : Prop := Claim7.holds Tryz.pinned (.plain (OpenSpec.upto combinedChecksSpec)) combinedChecksUptoCard

/-- THE SECOND FORM's CARD OF 'mergelenslaw18.CombinedCuts'. -/
def combinedCutsUptoCard : Claim7 := { stood := { row := combinedCutsUptoRow, standIns := [], harness := (true, "c7c045ddfc96cfee21340ddf9060604e0d2f6bb8a0491f333cb625273999da7e"), looks := false }, kinds := [], alts := [], laidByText := true, laidKinds := [.data, .data, .data, .data, .pinned], laidTests := true, laidLooks := .later }
def CombinedCutsUptoCardSaid : Prop := Claim7.holds Tryz.pinned (.plain (OpenSpec.upto combinedCutsSpec)) combinedCutsUptoCard
end Rows
end Go.Proofs.YtgejaedjnbjpoaaGreatDoor
