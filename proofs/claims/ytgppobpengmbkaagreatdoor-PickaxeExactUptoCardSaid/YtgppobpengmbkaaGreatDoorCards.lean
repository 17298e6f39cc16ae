/-
  DERIVED. GIVEN WITH THE SEED: THE CARDS: each row of YtgppobpengmbkaaGreatDoorRows.lean that lists a variable, with what it lists TIED to the program's text (the seventh form; the later family's looks); each row that meets fmt, with fmt's text TOLD by the authors' own Lean function (tested against real Go, not proved from fmt's source: count such statements apart). THE CARD IS WHAT COUNTS. Prove the row's statement (the work); the ties are given (YtgppobpengmbkaaGreatDoorTie.lean); close each card by the builder's one call (the guide's Derived/Test/ToyasCard.lean, 'card_holds'). Laid BY PROGRAM, IN A SANDBOX (cutbox-door.mjs). By AI agents, Wed Nov 11 2026. No macro, syntax, notation, axiom, sorry.
-/
import Derived.Test.YtgppobpengmbkaaGreatDoorRows
import GoSem.ClaimSeven
namespace Go.Proofs.YtgppobpengmbkaaGreatDoor
namespace Rows

/-- THE TIED CARD OF 'mergelenslaw28.PickaxeExact'. -/
def pickaxeExactCard : Claim7 := { stood := { row := pickaxeExactRow, standIns := [], harness := (true, "780fcfdf633f4bdd670275214fa76cf94328f92d3cb4d01a36019a7ec7df8d93"), looks := true }, kinds := [], alts := [], laidByText := true, laidKinds := [.data, .pinned], laidTests := true, laidLooks := .later }
def PickaxeExactCardSaid : Prop := Claim7.holds Tryz.pinned (.plain (OpenSpec.ofChange pickaxeExactSpec)) pickaxeExactCard

/-- THE SECOND FORM's CARD OF 'mergelenslaw28.PickaxeExact'. -/
def pickaxeExactUptoCard : Claim7 := { stood := { row := pickaxeExactUptoRow, standIns := [], harness := (true, "780fcfdf633f4bdd670275214fa76cf94328f92d3cb4d01a36019a7ec7df8d93"), looks := true }, kinds := [], alts := [], laidByText := true, laidKinds := [.data, .pinned], laidTests := true, laidLooks := .later }
def PickaxeExactUptoCardSaid : Prop := Claim7.holds Tryz.pinned (.plain (OpenSpec.upto pickaxeExactSpec)) pickaxeExactUptoCard
end Rows
end Go.Proofs.YtgppobpengmbkaaGreatDoor
