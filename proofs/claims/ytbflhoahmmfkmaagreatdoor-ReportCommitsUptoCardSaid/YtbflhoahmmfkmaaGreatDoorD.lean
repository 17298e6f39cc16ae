/- The data of the program's structs. No project text. -/
import Derived.Test.YtbflhoahmmfkmaaGreatDoorAm
set_option linter.all false
namespace Go.AL
open Go
abbrev Str:=List UInt8
structure Span where
  From:Int
  To:Int
  deriving DecidableEq
structure Change where
  Old:Int
  OldLen:Int
  New:Int
  NewLen:Int
  deriving DecidableEq
structure Merged where
  Line:Int
  Parents:Int
  deriving DecidableEq
structure Row where
  Lost:Bool
  Marks:Int
  Text:Str
  deriving DecidableEq
structure Table where
  Parents:Int
  Rows:List Row
  deriving DecidableEq
structure Hunk where
  First:Int
  Last:Int
  Old:Span
  New:Span
  deriving DecidableEq
structure PatchLine where
  Kind:UInt8
  Text:Str
  deriving DecidableEq
structure PatchHunk where
  Old:Int
  New:Int
  Lines:List PatchLine
  deriving DecidableEq
structure Patch where
  OldName:Str
  NewName:Str
  Hunks:List PatchHunk
  deriving DecidableEq
abbrev pByte(c:UInt8):PV:=.one (.v (.int .u8 c.toNat))
end Go.AL
