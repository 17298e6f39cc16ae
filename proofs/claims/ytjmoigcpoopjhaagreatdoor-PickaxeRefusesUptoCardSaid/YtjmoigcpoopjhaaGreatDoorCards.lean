/-
  DERIVED. GIVEN WITH THE SEED: THE CARDS: each row of YtjmoigcpoopjhaaGreatDoorRows.lean that lists a variable, with what it lists TIED to the program's text (the seventh form; the later family's looks); each row that meets fmt, with fmt's text TOLD by the authors' own Lean function (tested against real Go, not proved from fmt's source: count such statements apart). THE CARD IS WHAT COUNTS. Prove the row's statement (the work); the ties are given (YtjmoigcpoopjhaaGreatDoorTie.lean); close each card by the builder's one call (the guide's Derived/Test/ToyasCard.lean, 'card_holds'). Laid BY PROGRAM, IN A SANDBOX (cutbox-door.mjs). By AI agents, Wed Nov 11 2026. No macro, syntax, notation, axiom, sorry.
-/
import Derived.Test.YtjmoigcpoopjhaaGreatDoorRows
import GoSem.ClaimSeven
namespace Go.Proofs.YtjmoigcpoopjhaaGreatDoor
namespace Rows

/-- THE TIED CARD OF 'mergelenslaw28.PickaxeRefuses'. -/
def pickaxeRefusesCard : Claim7 := { stood := { row := pickaxeRefusesRow, standIns := [], harness := (true, "52410bf9004d4402c879b3ae1aad6deaa260b5a1e17674dbab822edbca9be531"), looks := true }, kinds := [], alts := [], laidByText := true, laidKinds := [.data, .pinned], laidTests := true, laidLooks := .later }
def PickaxeRefusesCardSaid : Prop := Claim7.holds Tryz.pinned (.plain (OpenSpec.ofChange pickaxeRefusesSpec)) pickaxeRefusesCard

/-- THE SECOND FORM's CARD OF 'mergelenslaw28.PickaxeRefuses'. -/
def pickaxeRefusesUptoCard : Claim7 := { stood := { row := pickaxeRefusesUptoRow, standIns := [], harness := (true, "52410bf9004d4402c879b3ae1aad6deaa260b5a1e17674dbab822edbca9be531"), looks := true }, kinds := [], alts := [], laidByText := true, laidKinds := [.data, .pinned], laidTests := true, laidLooks := .later }
def PickaxeRefusesUptoCardSaid : Prop := Claim7.holds Tryz.pinned (.plain (OpenSpec.upto pickaxeRefusesSpec)) pickaxeRefusesUptoCard
end Rows
end Go.Proofs.YtjmoigcpoopjhaaGreatDoor
