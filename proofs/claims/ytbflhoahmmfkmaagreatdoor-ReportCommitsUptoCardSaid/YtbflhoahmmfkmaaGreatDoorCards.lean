/-
  DERIVED. GIVEN WITH THE SEED: THE CARDS: each row of YtbflhoahmmfkmaaGreatDoorRows.lean that lists a variable, with what it lists TIED to the program's text (the seventh form; the later family's looks); each row that meets fmt, with fmt's text TOLD by the authors' own Lean function (tested against real Go, not proved from fmt's source: count such statements apart). THE CARD IS WHAT COUNTS. Prove the row's statement (the work); the ties are given (YtbflhoahmmfkmaaGreatDoorTie.lean); close each card by the builder's one call (the guide's Derived/Test/ToyasCard.lean, 'card_holds'). Laid BY PROGRAM, IN A SANDBOX (cutbox-door.mjs). By AI agents, Wed Nov 11 2026. No macro, syntax, notation, axiom, sorry.
-/
import Derived.Test.YtbflhoahmmfkmaaGreatDoorRows
import GoSem.ClaimSeven
namespace Go.Proofs.YtbflhoahmmfkmaaGreatDoor
namespace Rows

/-- THE TIED CARD OF 'mergelenstop.TopBlame'. -/
def topBlameCard : Claim7 := { stood := { row := topBlameRow, standIns := [], harness := (true, "7c4e4b9732550680870e1eaad375d999aaebee9403ad0ec03cb72ba7b61fd671"), looks := true }, kinds := [], alts := [], laidByText := true, laidKinds := [.data, .data, .data, .data, .pinned], laidTests := true, laidLooks := .later }
def TopBlameCardSaid : Prop := Claim7.holds Tryz.pinned (.plain (OpenSpec.ofChange topBlameSpec)) topBlameCard

/-- THE TIED CARD OF 'mergelenstop.TopRanges'. -/
def topRangesCard : Claim7 := { stood := { row := topRangesRow, standIns := [], harness := (true, "7c4e4b9732550680870e1eaad375d999aaebee9403ad0ec03cb72ba7b61fd671"), looks := true }, kinds := [], alts := [], laidByText := true, laidKinds := [.data, .data, .data, .data, .pinned], laidTests := true, laidLooks := .later }
def TopRangesCardSaid : Prop := Claim7.holds Tryz.pinned (.plain (OpenSpec.ofChange topRangesSpec)) topRangesCard

/-- THE TIED CARD OF 'mergelenslaw33.ReportRefuses'. -/
def reportRefusesCard : Claim7 := { stood := { row := reportRefusesRow, standIns := [], harness := (true, "7c4e4b9732550680870e1eaad375d999aaebee9403ad0ec03cb72ba7b61fd671"), looks := true }, kinds := [], alts := [], laidByText := true, laidKinds := [.data, .data, .data, .data, .pinned], laidTests := true, laidLooks := .later }
def ReportRefusesCardSaid : Prop := Claim7.holds Tryz.pinned (.plain (OpenSpec.ofChange reportRefusesSpec)) reportRefusesCard

/-- THE TIED CARD OF 'mergelenslaw33.ReportCommits'. -/
def reportCommitsCard : Claim7 := { stood := { row := reportCommitsRow, standIns := [], harness := (true, "7c4e4b9732550680870e1eaad375d999aaebee9403ad0ec03cb72ba7b61fd671"), looks := true }, kinds := [], alts := [], laidByText := true, laidKinds := [.data, .data, .data, .data, .pinned], laidTests := true, laidLooks := .later }
def ReportCommitsCardSaid : Prop := Claim7.holds Tryz.pinned (.plain (OpenSpec.ofChange reportCommitsSpec)) reportCommitsCard

/-- THE SECOND FORM's CARD OF 'mergelenstop.TopBlame'. -/
def topBlameUptoCard : Claim7 := { stood := { row := topBlameUptoRow, standIns := [], harness := (true, "7c4e4b9732550680870e1eaad375d999aaebee9403ad0ec03cb72ba7b61fd671"), looks := true }, kinds := [], alts := [], laidByText := true, laidKinds := [.data, .data, .data, .data, .pinned], laidTests := true, laidLooks := .later }
def TopBlameUptoCardSaid : Prop := Claim7.holds Tryz.pinned (.plain (OpenSpec.upto topBlameSpec)) topBlameUptoCard

/-- THE SECOND FORM's CARD OF 'mergelenstop.TopRanges'. -/
def topRangesUptoCard : Claim7 := { stood := { row := topRangesUptoRow, standIns := [], harness := (true, "7c4e4b9732550680870e1eaad375d999aaebee9403ad0ec03cb72ba7b61fd671"), looks := true }, kinds := [], alts := [], laidByText := true, laidKinds := [.data, .data, .data, .data, .pinned], laidTests := true, laidLooks := .later }
def TopRangesUptoCardSaid : Prop := Claim7.holds Tryz.pinned (.plain (OpenSpec.upto topRangesSpec)) topRangesUptoCard

/-- THE SECOND FORM's CARD OF 'mergelenslaw33.ReportRefuses'. -/
def reportRefusesUptoCard : Claim7 := { stood := { row := reportRefusesUptoRow, standIns := [], harness := (true, "7c4e4b9732550680870e1eaad375d999aaebee9403ad0ec03cb72ba7b61fd671"), looks := true }, kinds := [], alts := [], laidByText := true, laidKinds := [.data, .data, .data, .data, .pinned], laidTests := true, laidLooks := .later }
def ReportRefusesUptoCardSaid : Prop := Claim7.holds Tryz.pinned (.plain (OpenSpec.upto reportRefusesSpec)) reportRefusesUptoCard

/-- THE SECOND FORM's CARD OF 'mergelenslaw33.ReportCommits'. -/
def reportCommitsUptoCard : Claim7 := { stood := { row := reportCommitsUptoRow, standIns := [], harness := (true, "7c4e4b9732550680870e1eaad375d999aaebee9403ad0ec03cb72ba7b61fd671"), looks := true }, kinds := [], alts := [], laidByText := true, laidKinds := [.data, .data, .data, .data, .pinned], laidTests := true, laidLooks := .later }
def ReportCommitsUptoCardSaid : Prop := Claim7.holds Tryz.pinned (.plain (OpenSpec.upto reportCommitsSpec)) reportCommitsUptoCard
end Rows
end Go.Proofs.YtbflhoahmmfkmaaGreatDoor
