/-
  DERIVED. GIVEN WITH THE SEED: THE CARDS: each row of YtkahafmcmiiolaaGreatDoorRows.lean that lists a variable, with what it lists TIED to the program's text (the seventh form; the later family's looks); each row that meets fmt, with fmt's text TOLD by the authors' own Lean function (tested against real Go, not proved from fmt's source: count such statements apart). THE CARD IS WHAT COUNTS. Prove the row's statement (the work); the ties are given (YtkahafmcmiiolaaGreatDoorTie.lean); close each card by the builder's one call (the guide's Derived/Test/ToyasCard.lean, 'card_holds'). Laid BY PROGRAM, IN A SANDBOX (cutbox-door.mjs). By AI agents, Wed Nov 11 2026. No macro, syntax, notation, axiom, sorry.
-/
import Derived.Test.YtkahafmcmiiolaaGreatDoorRows
import GoSem.ClaimSeven
namespace Go.Proofs.YtkahafmcmiiolaaGreatDoor
namespace Rows

/-- THE TIED CARD OF 'mergelenslaw28.PickaxeDot'. -/
def pickaxeDotCard : Claim7 := { stood := { row := pickaxeDotRow, standIns := [], harness := (true, "a2fa978dcf14acb38f91b10f176f6aadeb72ba5270bffd43e2698997a82e1e77"), looks := true }, kinds := [], alts := [], laidByText := true, laidKinds := [.data, .pinned], laidTests := true, laidLooks := .later }
def PickaxeDotCardSaid : Prop := Claim7.holds Tryz.pinned (.plain (OpenSpec.ofChange pickaxeDotSpec)) pickaxeDotCard

/-- THE TIED CARD OF 'mergelenslaw28.PickaxeWhole'. -/
def pickaxeWholeCard : Claim7 := { stood := { row := pickaxeWholeRow, standIns := [], harness := (true, "a2fa978dcf14acb38f91b10f176f6aadeb72ba5270bffd43e2698997a82e1e77"), looks := true }, kinds := [], alts := [], laidByText := true, laidKinds := [.data, .pinned], laidTests := true, laidLooks := .later }
def PickaxeWholeCardSaid : Prop := Claim7.holds Tryz.pinned (.plain (OpenSpec.ofChange pickaxeWholeSpec)) pickaxeWholeCard

/-- THE SECOND FORM's CARD OF 'mergelenslaw28.PickaxeDot'. -/
def pickaxeDotUptoCard : Claim7 := { stood := { row := pickaxeDotUptoRow, standIns := [], harness := (true, "a2fa978dcf14acb38f91b10f176f6aadeb72ba5270bffd43e2698997a82e1e77"), looks := true }, kinds := [], alts := [], laidByText := true, laidKinds := [.data, .pinned], laidTests := true, laidLooks := .later }
def PickaxeDotUptoCardSaid : Prop := Claim7.holds Tryz.pinned (.plain (OpenSpec.upto pickaxeDotSpec)) pickaxeDotUptoCard

/-- THE SECOND FORM's CARD OF 'mergelenslaw28.PickaxeWhole'. -/
def pickaxeWholeUptoCard : Claim7 := { stood := { row := pickaxeWholeUptoRow, standIns := [], harness := (true, "a2fa978dcf14acb38f91b10f176f6aadeb72ba5270bffd43e2698997a82e1e77"), looks := true }, kinds := [], alts := [], laidByText := true, laidKinds := [.data, .pinned], laidTests := true, laidLooks := .later }
def PickaxeWholeUptoCardSaid : Prop := Claim7.holds Tryz.pinned (.plain (OpenSpec.upto pickaxeWholeSpec)) pickaxeWholeUptoCard
end Rows
end Go.Proofs.YtkahafmcmiiolaaGreatDoor
