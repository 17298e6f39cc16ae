/- The data of the program's structs. No project text. -/
import Derived.Test.YtjjidificdmnmaaDoorAm
namespace Go.AL
open Go
abbrev Str := List UInt8
structure Span where
  From : Int
  To : Int
  deriving DecidableEq
structure Change where
  Old : Int
  OldLen : Int
  New : Int
  NewLen : Int
  deriving DecidableEq
structure Merged where
  Line : Int
  Parents : Int
  deriving DecidableEq
structure Row where
  Lost : Bool
  Marks : Int
  Text : Str
  deriving DecidableEq
structure Table where
  Parents : Int
  Rows : List Row
  deriving DecidableEq
structure Hunk where
  First : Int
  Last : Int
  Old : Span
  New : Span
  deriving DecidableEq
structure PatchLine where
  Kind : UInt8
  Text : Str
  deriving DecidableEq
structure PatchHunk where
  Old : Int
  New : Int
  Lines : List PatchLine
  deriving DecidableEq
structure Patch where
  OldName : Str
  NewName : Str
  Hunks : List PatchHunk
  deriving DecidableEq
def plineC : PatchLine → Nat → Cell := fun l j => match j with
  | 0 => .v (.int .u8 l.Kind.toNat)
  | _ => .v (.string ⟨l.Text.toArray⟩)
def phunkC : PatchHunk → Nat → Cell := fun h j => match j with
  | 0 => .v (.int .i64 h.Old)
  | 1 => .v (.int .i64 h.New)
  | _ => .list PatchLine 2 plineC h.Lines
abbrev pByte (c : UInt8) : PV := .one (.v (.int .u8 c.toNat))
abbrev pPhunks (l : List PatchHunk) : PV := .one (.list PatchHunk 3 phunkC l)
abbrev pPhunk (h : PatchHunk) : PV := .agg [.v (.int .i64 h.Old), .v (.int .i64 h.New), .list PatchLine 2 plineC h.Lines]
abbrev pPatch (p : Patch) : PV := .agg [.v (.string ⟨p.OldName.toArray⟩), .v (.string ⟨p.NewName.toArray⟩), .list PatchHunk 3 phunkC p.Hunks]
end Go.AL
