/-
  DERIVED. GIVEN WITH THE SEED: THE CARDS: each row of YtfhbolepaojekaaGreatDoorRows.lean that lists a variable, with what it lists TIED to the program's text (the seventh form; the later family's looks); each row that meets fmt, with fmt's text TOLD by the authors' own Lean function (tested against real Go, not proved from fmt's source: count such statements apart). THE CARD IS WHAT COUNTS. Prove the row's statement (the work); the ties are given (YtfhbolepaojekaaGreatDoorTie.lean); close each card by the builder's one call (the guide's Derived/Test/ToyasCard.lean, 'card_holds'). Laid BY PROGRAM, IN A SANDBOX (cutbox-door.mjs). By AI agents, Wed Nov 11 2026. No macro, syntax, notation, axiom, sorry.
-/
import Derived.Test.YtfhbolepaojekaaGreatDoorRows
import GoSem.ClaimSeven
namespace Go.Proofs.YtfhbolepaojekaaGreatDoor
namespace Rows

/-- THE TIED CARD OF 'mergelenslaw28.PickaxeLiteral'. -/
def pickaxeLiteralCard : Claim7 := { stood := { row := pickaxeLiteralRow, standIns := [], harness := (true, "fa481498df641ebfae0f46b93b940272c3e860ae5ba870c794aed65380ac77e0"), looks := true }, kinds := [], alts := [], laidByText := true, laidKinds := [.data, .pinned], laidTests := true, laidLooks := .later }
def PickaxeLiteralCardSaid : Prop := Claim7.holds Tryz.pinned (.plain (OpenSpec.ofChange pickaxeLiteralSpec)) pickaxeLiteralCard

/-- THE SECOND FORM's CARD OF 'mergelenslaw28.PickaxeLiteral'. -/
def pickaxeLiteralUptoCard : Claim7 := { stood := { row := pickaxeLiteralUptoRow, standIns := [], harness := (true, "fa481498df641ebfae0f46b93b940272c3e860ae5ba870c794aed65380ac77e0"), looks := true }, kinds := [], alts := [], laidByText := true, laidKinds := [.data, .pinned], laidTests := true, laidLooks := .later }
def PickaxeLiteralUptoCardSaid : Prop := Claim7.holds Tryz.pinned (.plain (OpenSpec.upto pickaxeLiteralSpec)) pickaxeLiteralUptoCard
end Rows
end Go.Proofs.YtfhbolepaojekaaGreatDoor
