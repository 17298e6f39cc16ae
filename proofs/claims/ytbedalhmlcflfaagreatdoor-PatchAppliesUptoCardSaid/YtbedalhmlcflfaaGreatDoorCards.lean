/-
  DERIVED. GIVEN WITH THE SEED: THE CARDS: each row of YtbedalhmlcflfaaGreatDoorRows.lean that lists a variable, with what it lists TIED to the program's text (the seventh form; the later family's looks); each row that meets fmt, with fmt's text TOLD by the authors' own Lean function (tested against real Go, not proved from fmt's source: count such statements apart). THE CARD IS WHAT COUNTS. Prove the row's statement (the work); the ties are given (YtbedalhmlcflfaaGreatDoorTie.lean); close each card by the builder's one call (the guide's Derived/Test/ToyasCard.lean, 'card_holds'). Laid BY PROGRAM, IN A SANDBOX (cutbox-door.mjs). By AI agents, Wed Nov 11 2026. No macro, syntax, notation, axiom, sorry.
-/
import Derived.Test.YtbedalhmlcflfaaGreatDoorRows
import GoSem.ClaimSeven
namespace Go.Proofs.YtbedalhmlcflfaaGreatDoor
namespace Rows

/-- THE TIED CARD OF 'mergelenslaw14.PatchApplies'. -/
def patchAppliesCard : Claim7 := { stood := { row := patchAppliesRow, standIns := [], harness := (true, "836d40fc02f0aff494a0fa712ae3cf736075b9d1a15e0cbaabbe40d5f7c2403d"), looks := false }, kinds := [], alts := [], laidByText := true, laidKinds := [.data, .data, .data, .data, .pinned], laidTests := true, laidLooks := .later }
def PatchAppliesCardSaid : Prop := Claim7.holds Tryz.pinned (.plain (OpenSpec.ofChange patchAppliesSpec)) patchAppliesCard

/-- THE SECOND FORM's CARD OF 'mergelenslaw14.PatchApplies'. -/
def patchAppliesUptoCard : Claim7 := { stood := { row := patchAppliesUptoRow, standIns := [], harness := (true, "836d40fc02f0aff494a0fa712ae3cf736075b9d1a15e0cbaabbe40d5f7c2403d"), looks := false }, kinds := [], alts := [], laidByText := true, laidKinds := [.data, .data, .data, .data, .pinned], laidTests := true, laidLooks := .later }
def PatchAppliesUptoCardSaid : Prop := Claim7.holds Tryz.pinned (.plain (OpenSpec.upto patchAppliesSpec)) patchAppliesUptoCard
end Rows
end Go.Proofs.YtbedalhmlcflfaaGreatDoor
