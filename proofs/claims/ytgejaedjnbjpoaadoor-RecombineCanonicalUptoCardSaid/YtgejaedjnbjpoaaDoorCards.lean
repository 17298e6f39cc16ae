/-
  DERIVED. GIVEN WITH THE SEED: THE CARDS: each row of YtgejaedjnbjpoaaDoorRows.lean that lists a variable, with what it lists TIED to the program's text (the seventh form; the later family's looks); each row that meets fmt, with fmt's text TOLD by the authors' own Lean function (tested against real Go, not proved from fmt's source: count such statements apart). THE CARD IS WHAT COUNTS. Prove the row's statement (the work); the ties are given (YtgejaedjnbjpoaaDoorTie.lean); close each card by the builder's one call (the guide's Derived/Test/ToyasCard.lean, 'card_holds'). Laid BY PROGRAM, IN A SANDBOX (cutbox-door.mjs). By AI agents, Wed Nov 11 2026. No macro, syntax, notation, axiom, sorry.
-/
import Derived.Test.YtgejaedjnbjpoaaDoorRows
import GoSem.ClaimSeven
namespace Go.Proofs.YtgejaedjnbjpoaaDoor
namespace Rows

/-- THE TIED CARD OF 'mergelenslaw19.RecombineRows'. -/
def recombineRowsCard : Claim7 := { stood := { row := recombineRowsRow, standIns := [], harness := (true, "4843d773bdd8d16a6e38743f573b59dbd14f5ca6d48540105df55ddff2ec7973"), looks := false }, kinds := [], alts := [], laidByText := true, laidKinds := [.data, .data, .data, .data, .pinned], laidTests := true, laidLooks := .later }
def RecombineRowsCardSaid : Prop := Claim7.holds Tryd.pinned (.plain (OpenSpec.ofChange recombineRowsSpec)) recombineRowsCard

/-- THE TIED CARD OF 'mergelenslaw19.RecombineCanonical'. -/
def recombineCanonicalCard : Claim7 := { stood := { row := recombineCanonicalRow, standIns := [], harness := (true, "4843d773bdd8d16a6e38743f573b59dbd14f5ca6d48540105df55ddff2ec7973"), looks := false }, kinds := [], alts := [], laidByText := true, laidKinds := [.data, .data, .data, .data, .pinned], laidTests := true, laidLooks := .later }
def RecombineCanonicalCardSaid : Prop := Claim7.holds Tryd.pinned (.plain (OpenSpec.ofChange recombineCanonicalSpec)) recombineCanonicalCard

/-- THE SECOND FORM's CARD OF 'mergelenslaw19.RecombineRows'. -/
def recombineRowsUptoCard : Claim7 := { stood := { row := recombineRowsUptoRow, standIns := [], harness := (true, "4843d773bdd8d16a6e38743f573b59dbd14f5ca6d48540105df55ddff2ec7973"), looks := false }, kinds := [], alts := [], laidByText := true, laidKinds := [.data, .data, .data, .data, .pinned], laidTests := true, laidLooks := .later }
def RecombineRowsUptoCardSaid : Prop := Claim7.holds Tryd.pinned (.plain (OpenSpec.upto recombineRowsSpec)) recombineRowsUptoCard

/-- THE SECOND FORM's CARD OF 'mergelenslaw19.RecombineCanonical'. -/
def recombineCanonicalUptoCard : Claim7 := { stood := { row := recombineCanonicalUptoRow, standIns := [], harness := (true, "4843d773bdd8d16a6e38743f573b59dbd14f5ca6d48540105df55ddff2ec7973"), looks := false }, kinds := [], alts := [], laidByText := true, laidKinds := [.data, .data, .data, .data, .pinned], laidTests := true, laidLooks := .later }
def RecombineCanonicalUptoCardSaid : Prop := Claim7.holds Tryd.pinned (.plain (OpenSpec.upto recombineCanonicalSpec)) recombineCanonicalUptoCard
end Rows
end Go.Proofs.YtgejaedjnbjpoaaDoor
