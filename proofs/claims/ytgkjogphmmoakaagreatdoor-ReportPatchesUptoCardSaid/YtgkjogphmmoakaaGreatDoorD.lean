/- The data of the program's structs. No project text. -/
import Derived.Test.YtgkjogphmmoakaaGreatDoorAm
set_option linter.all false
namespace Go.AL
open Go
abbrev Str:=List UInt8
structure Span where
  From:Int
  To:Int
  deriving DecidableEq
structure Change where
  Old:Int
  OldLen:Int
  New:Int
  NewLen:Int
  deriving DecidableEq
structure Merged where
  Line:Int
  Parents:Int
  deriving DecidableEq
structure Row where
  Lost:Bool
  Marks:Int
  Text:Str
  deriving DecidableEq
structure Table where
  Parents:Int
  Rows:List Row
  deriving DecidableEq
structure Hunk where
  First:Int
  Last:Int
  Old:Span
  New:Span
  deriving DecidableEq
structure PatchLine where
  Kind:UInt8
  Text:Str
  deriving DecidableEq
structure PatchHunk where
  Old:Int
  New:Int
  Lines:List PatchLine
  deriving DecidableEq
structure Patch where
  OldName:Str
  NewName:Str
  Hunks:List PatchHunk
  deriving DecidableEq
def spanC:Span->Nat->Cell:=fun s j=>match j with
  | 0=>.v (.int .i64 s.From)
  | _=>.v (.int .i64 s.To)
def changeC:Change->Nat->Cell:=fun s j=>match j with
  | 0=>.v (.int .i64 s.Old)
  | 1=>.v (.int .i64 s.OldLen)
  | 2=>.v (.int .i64 s.New)
  | _=>.v (.int .i64 s.NewLen)
def hunkC:Hunk->Nat->Cell:=fun h j=>match j with
  | 0=>.v (.int .i64 h.First)
  | 1=>.v (.int .i64 h.Last)
  | 2=>.v (.int .i64 h.Old.From)
  | 3=>.v (.int .i64 h.Old.To)
  | 4=>.v (.int .i64 h.New.From)
  | _=>.v (.int .i64 h.New.To)
def plineC:PatchLine->Nat->Cell:=fun l j=>match j with
  | 0=>.v (.int .u8 l.Kind.toNat)
  | _=>.v (.string ⟨l.Text.toArray⟩)
def phunkC:PatchHunk->Nat->Cell:=fun h j=>match j with
  | 0=>.v (.int .i64 h.Old)
  | 1=>.v (.int .i64 h.New)
  | _=>.list PatchLine 2 plineC h.Lines
abbrev pByte(c:UInt8):PV:=.one (.v (.int .u8 c.toNat))
abbrev pHunks(l:List Hunk):PV:=.one (.list Hunk 6 hunkC l)
abbrev pPhunks(l:List PatchHunk):PV:=.one (.list PatchHunk 3 phunkC l)
abbrev pPhunk(h:PatchHunk):PV:=.agg [.v (.int .i64 h.Old),.v (.int .i64 h.New),.list PatchLine 2 plineC h.Lines]
abbrev pPatch(p:Patch):PV:=.agg [.v (.string ⟨p.OldName.toArray⟩),.v (.string ⟨p.NewName.toArray⟩),.list PatchHunk 3 phunkC p.Hunks]
abbrev pSpans(l:List Span):PV:=.one (.list Span 2 spanC l)
abbrev pChanges(l:List Change):PV:=.one (.list Change 4 changeC l)
abbrev pStrss(l:List (List Str)):PV:=.one (.list (List Str) 1 strsC l)
abbrev pIntss(l:List (List Int)):PV:=.one (.list (List Int) 1 intsC l)
end Go.AL
