/-
  DERIVED. GIVEN WITH THE SEED: THE CARDS: each row of YtmbpmaofnddkoaaGreatDoorRows.lean that lists a variable, with what it lists TIED to the program's text (the seventh form; the later family's looks); each row that meets fmt, with fmt's text TOLD by the authors' own Lean function (tested against real Go, not proved from fmt's source: count such statements apart). THE CARD IS WHAT COUNTS. Prove the row's statement (the work); the ties are given (YtmbpmaofnddkoaaGreatDoorTie.lean); close each card by the builder's one call (the guide's Derived/Test/ToyasCard.lean, 'card_holds'). Laid BY PROGRAM, IN A SANDBOX (cutbox-door.mjs). By AI agents, Wed Nov 11 2026. No macro, syntax, notation, axiom, sorry.
-/
import Derived.Test.YtmbpmaofnddkoaaGreatDoorRows
import GoSem.ClaimSeven
namespace Go.Proofs.YtmbpmaofnddkoaaGreatDoor
namespace Rows

/-- THE TIED CARD OF 'mergelenstop.TopReplays'. -/
def topReplaysCard : Claim7 := { stood := { row := topReplaysRow, standIns := [], harness := (true, "913ec8ab19da00fcc915efa08492784a6135b21b5e6ea462006a21f1021626f4"), looks := true }, kinds := [], alts := [], laidByText := true, laidKinds := [.data, .data, .data, .data, .pinned], laidTests := true, laidLooks := .later }
def TopReplaysCardSaid : Prop := Claim7.holds Tryz.pinned (.plain (OpenSpec.ofChange topReplaysSpec)) topReplaysCard

/-- THE SECOND FORM's CARD OF 'mergelenstop.TopReplays'. -/
def topReplaysUptoCard : Claim7 := { stood := { row := topReplaysUptoRow, standIns := [], harness := (true, "913ec8ab19da00fcc915efa08492784a6135b21b5e6ea462006a21f1021626f4"), looks := true }, kinds := [], alts := [], laidByText := true, laidKinds := [.data, .data, .data, .data, .pinned], laidTests := true, laidLooks := .later }
def TopReplaysUptoCardSaid : Prop := Claim7.holds Tryz.pinned (.plain (OpenSpec.upto topReplaysSpec)) topReplaysUptoCard
end Rows
end Go.Proofs.YtmbpmaofnddkoaaGreatDoor
