/-
  DERIVED. GIVEN WITH THE SEED: THE CARDS: each row of YtgkjogphmmoakaaGreatDoorRows.lean that lists a variable, with what it lists TIED to the program's text (the seventh form; the later family's looks); each row that meets fmt, with fmt's text TOLD by the authors' own Lean function (tested against real Go, not proved from fmt's source: count such statements apart). THE CARD IS WHAT COUNTS. Prove the row's statement (the work); the ties are given (YtgkjogphmmoakaaGreatDoorTie.lean); close each card by the builder's one call (the guide's Derived/Test/ToyasCard.lean, 'card_holds'). Laid BY PROGRAM, IN A SANDBOX (cutbox-door.mjs). By AI agents, Wed Nov 11 2026. No macro, syntax, notation, axiom, sorry.
-/
import Derived.Test.YtgkjogphmmoakaaGreatDoorRows
import GoSem.ClaimSeven
namespace Go.Proofs.YtgkjogphmmoakaaGreatDoor
namespace Rows

/-- THE TIED CARD OF 'mergelenslaw33.ReportMerges'. -/
def reportMergesCard : Claim7 := { stood := { row := reportMergesRow, standIns := [], harness := (true, "bcbd74a9b5dc714a1bcafb181cd420fa7eb3837cd4966a4e5170c06d08c2f8db"), looks := true }, kinds := [], alts := [], laidByText := true, laidKinds := [.data, .data, .data, .data, .pinned], laidTests := true, laidLooks := .later }
def ReportMergesCardSaid : Prop := Claim7.holds Tryz.pinned (.plain (OpenSpec.ofChange reportMergesSpec)) reportMergesCard

/-- THE TIED CARD OF 'mergelenslaw33.ReportPatches'. -/
def reportPatchesCard : Claim7 := { stood := { row := reportPatchesRow, standIns := [], harness := (true, "bcbd74a9b5dc714a1bcafb181cd420fa7eb3837cd4966a4e5170c06d08c2f8db"), looks := true }, kinds := [], alts := [], laidByText := true, laidKinds := [.data, .data, .data, .data, .pinned], laidTests := true, laidLooks := .later }
def ReportPatchesCardSaid : Prop := Claim7.holds Tryz.pinned (.plain (OpenSpec.ofChange reportPatchesSpec)) reportPatchesCard

/-- THE SECOND FORM's CARD OF 'mergelenslaw33.ReportMerges'. -/
def reportMergesUptoCard : Claim7 := { stood := { row := reportMergesUptoRow, standIns := [], harness := (true, "bcbd74a9b5dc714a1bcafb181cd420fa7eb3837cd4966a4e5170c06d08c2f8db"), looks := true }, kinds := [], alts := [], laidByText := true, laidKinds := [.data, .data, .data, .data, .pinned], laidTests := true, laidLooks := .later }
def ReportMergesUptoCardSaid : Prop := Claim7.holds Tryz.pinned (.plain (OpenSpec.upto reportMergesSpec)) reportMergesUptoCard

/-- THE SECOND FORM's CARD OF 'mergelenslaw33.ReportPatches'. -/
def reportPatchesUptoCard : Claim7 := { stood := { row := reportPatchesUptoRow, standIns := [], harness := (true, "bcbd74a9b5dc714a1bcafb181cd420fa7eb3837cd4966a4e5170c06d08c2f8db"), looks := true }, kinds := [], alts := [], laidByText := true, laidKinds := [.data, .data, .data, .data, .pinned], laidTests := true, laidLooks := .later }
def ReportPatchesUptoCardSaid : Prop := Claim7.holds Tryz.pinned (.plain (OpenSpec.upto reportPatchesSpec)) reportPatchesUptoCard
end Rows
end Go.Proofs.YtgkjogphmmoakaaGreatDoor
