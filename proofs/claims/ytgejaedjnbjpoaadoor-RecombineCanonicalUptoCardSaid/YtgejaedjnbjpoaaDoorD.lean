/- The data of the program's structs. No project text. -/
import Derived.Test.YtgejaedjnbjpoaaDoorAm
namespace Go.AL
open Go
abbrev Str := List UInt8
structure Span where
  From : Int
  To : Int
  deriving DecidableEq
structure Change where
  Old : Int
  OldLen : Int
  New : Int
  NewLen : Int
  deriving DecidableEq
structure Merged where
  Line : Int
  Parents : Int
  deriving DecidableEq
structure Row where
  Lost : Bool
  Marks : Int
  Text : Str
  deriving DecidableEq
structure Table where
  Parents : Int
  Rows : List Row
  deriving DecidableEq
structure Hunk where
  First : Int
  Last : Int
  Old : Span
  New : Span
  deriving DecidableEq
structure PatchLine where
  Kind : UInt8
  Text : Str
  deriving DecidableEq
structure PatchHunk where
  Old : Int
  New : Int
  Lines : List PatchLine
  deriving DecidableEq
structure Patch where
  OldName : Str
  NewName : Str
  Hunks : List PatchHunk
  deriving DecidableEq
def rowC : Row → Nat → Cell := fun s j => match j with
  | 0 => .v (.bool s.Lost)
  | 1 => .v (.int .u32 s.Marks)
  | _ => .v (.string ⟨s.Text.toArray⟩)
abbrev pByte (c : UInt8) : PV := .one (.v (.int .u8 c.toNat))
abbrev pRows (l : List Row) : PV := .one (.list Row 3 rowC l)
abbrev pRow (r : Row) : PV := .agg [.v (.bool r.Lost), .v (.int .u32 r.Marks), .v (.string ⟨r.Text.toArray⟩)]
end Go.AL
