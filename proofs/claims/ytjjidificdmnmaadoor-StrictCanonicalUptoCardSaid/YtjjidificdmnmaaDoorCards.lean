/-
  DERIVED. GIVEN WITH THE SEED: THE CARDS: each row of YtjjidificdmnmaaDoorRows.lean that lists a variable, with what it lists TIED to the program's text (the seventh form; the later family's looks); each row that meets fmt, with fmt's text TOLD by the authors' own Lean function (tested against real Go, not proved from fmt's source: count such statements apart). THE CARD IS WHAT COUNTS. Prove the row's statement (the work); the ties are given (YtjjidificdmnmaaDoorTie.lean); close each card by the builder's one call (the guide's Derived/Test/ToyasCard.lean, 'card_holds'). Laid BY PROGRAM, IN A SANDBOX (cutbox-door.mjs). By AI agents, Wed Nov 11 2026. No macro, syntax, notation, axiom, sorry.
-/
import Derived.Test.YtjjidificdmnmaaDoorRows
import GoSem.ClaimSeven
namespace Go.Proofs.YtjjidificdmnmaaDoor
namespace Rows

/-- THE TIED CARD OF 'mergelenslaw13.StrictCanonical'. -/
def strictCanonicalCard : Claim7 := { stood := { row := strictCanonicalRow, standIns := [], harness := (true, "6a3e3f7f8e33d9a8ba7122acfdf5d806d3a666ff33cff89ce8f1c0c2f7b6a025"), looks := false }, kinds := [], alts := [], laidByText := true, laidKinds := [.data, .data, .data, .data, .pinned], laidTests := true, laidLooks := .later }
def StrictCanonicalCardSaid : Prop := Claim7.holds Tryd.pinned (.plain (OpenSpec.ofChange strictCanonicalSpec)) strictCanonicalCard

/-- THE TIED CARD OF 'mergelenslaw12.UnifiedSame'. -/
def unifiedSameCard : Claim7 := { stood := { row := unifiedSameRow, standIns := [], harness := (true, "6a3e3f7f8e33d9a8ba7122acfdf5d806d3a666ff33cff89ce8f1c0c2f7b6a025"), looks := false }, kinds := [], alts := [], laidByText := true, laidKinds := [.data, .data, .data, .data, .pinned], laidTests := true, laidLooks := .later }
def UnifiedSameCardSaid : Prop := Claim7.holds Tryd.pinned (.plain (OpenSpec.ofChange unifiedSameSpec)) unifiedSameCard

/-- THE SECOND FORM's CARD OF 'mergelenslaw13.StrictCanonical'. -/
def strictCanonicalUptoCard : Claim7 := { stood := { row := strictCanonicalUptoRow, standIns := [], harness := (true, "6a3e3f7f8e33d9a8ba7122acfdf5d806d3a666ff33cff89ce8f1c0c2f7b6a025"), looks := false }, kinds := [], alts := [], laidByText := true, laidKinds := [.data, .data, .data, .data, .pinned], laidTests := true, laidLooks := .later }
def StrictCanonicalUptoCardSaid : Prop := Claim7.holds Tryd.pinned (.plain (OpenSpec.upto strictCanonicalSpec)) strictCanonicalUptoCard

/-- THE SECOND FORM's CARD OF 'mergelenslaw12.UnifiedSame'. -/
def unifiedSameUptoCard : Claim7 := { stood := { row := unifiedSameUptoRow, standIns := [], harness := (true, "6a3e3f7f8e33d9a8ba7122acfdf5d806d3a666ff33cff89ce8f1c0c2f7b6a025"), looks := false }, kinds := [], alts := [], laidByText := true, laidKinds := [.data, .data, .data, .data, .pinned], laidTests := true, laidLooks := .later }
def UnifiedSameUptoCardSaid : Prop := Claim7.holds Tryd.pinned (.plain (OpenSpec.upto unifiedSameSpec)) unifiedSameUptoCard
end Rows
end Go.Proofs.YtjjidificdmnmaaDoor
