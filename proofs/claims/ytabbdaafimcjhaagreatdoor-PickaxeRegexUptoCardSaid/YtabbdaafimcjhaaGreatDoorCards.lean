/-
  DERIVED. GIVEN WITH THE SEED: THE CARDS: each row of YtabbdaafimcjhaaGreatDoorRows.lean that lists a variable, with what it lists TIED to the program's text (the seventh form; the later family's looks); each row that meets fmt, with fmt's text TOLD by the authors' own Lean function (tested against real Go, not proved from fmt's source: count such statements apart). THE CARD IS WHAT COUNTS. Prove the row's statement (the work); the ties are given (YtabbdaafimcjhaaGreatDoorTie.lean); close each card by the builder's one call (the guide's Derived/Test/ToyasCard.lean, 'card_holds'). Laid BY PROGRAM, IN A SANDBOX (cutbox-door.mjs). By AI agents, Wed Nov 11 2026. No macro, syntax, notation, axiom, sorry.
-/
import Derived.Test.YtabbdaafimcjhaaGreatDoorRows
import GoSem.ClaimSeven
namespace Go.Proofs.YtabbdaafimcjhaaGreatDoor
namespace Rows

/-- THE TIED CARD OF 'mergelenslaw28.PickaxeRegex'. -/
def pickaxeRegexCard : Claim7 := { stood := { row := pickaxeRegexRow, standIns := [], harness := (true, "cfdf2e97df3cb48bc11bdef0e3945fa53b4344564c2d70e4d8a20e44332b3971"), looks := true }, kinds := [], alts := [], laidByText := true, laidKinds := [.data, .pinned], laidTests := true, laidLooks := .later }
def PickaxeRegexCardSaid : Prop := Claim7.holds Tryz.pinned (.plain (OpenSpec.ofChange pickaxeRegexSpec)) pickaxeRegexCard

/-- THE TIED CARD OF 'mergelenslaw28.PickaxeLines'. -/
def pickaxeLinesCard : Claim7 := { stood := { row := pickaxeLinesRow, standIns := [], harness := (true, "cfdf2e97df3cb48bc11bdef0e3945fa53b4344564c2d70e4d8a20e44332b3971"), looks := true }, kinds := [], alts := [], laidByText := true, laidKinds := [.data, .pinned], laidTests := true, laidLooks := .later }
def PickaxeLinesCardSaid : Prop := Claim7.holds Tryz.pinned (.plain (OpenSpec.ofChange pickaxeLinesSpec)) pickaxeLinesCard

/-- THE SECOND FORM's CARD OF 'mergelenslaw28.PickaxeRegex'. -/
def pickaxeRegexUptoCard : Claim7 := { stood := { row := pickaxeRegexUptoRow, standIns := [], harness := (true, "cfdf2e97df3cb48bc11bdef0e3945fa53b4344564c2d70e4d8a20e44332b3971"), looks := true }, kinds := [], alts := [], laidByText := true, laidKinds := [.data, .pinned], laidTests := true, laidLooks := .later }
def PickaxeRegexUptoCardSaid : Prop := Claim7.holds Tryz.pinned (.plain (OpenSpec.upto pickaxeRegexSpec)) pickaxeRegexUptoCard

/-- THE SECOND FORM's CARD OF 'mergelenslaw28.PickaxeLines'. -/
def pickaxeLinesUptoCard : Claim7 := { stood := { row := pickaxeLinesUptoRow, standIns := [], harness := (true, "cfdf2e97df3cb48bc11bdef0e3945fa53b4344564c2d70e4d8a20e44332b3971"), looks := true }, kinds := [], alts := [], laidByText := true, laidKinds := [.data, .pinned], laidTests := true, laidLooks := .later }
def PickaxeLinesUptoCardSaid : Prop := Claim7.holds Tryz.pinned (.plain (OpenSpec.upto pickaxeLinesSpec)) pickaxeLinesUptoCard
end Rows
end Go.Proofs.YtabbdaafimcjhaaGreatDoor
