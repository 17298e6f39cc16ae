/- The data of the program's structs. No project text. -/
import Derived.Test.YtgkjogphmmoakaaGreatDoorAm
set_option linter.all false
namespace Go.AL
open Go
abbrev Str:=List UInt8
structure Span where
  From:Int
  To:Int
  deriving DecidableEq
structure Change where
  Old:Int
  OldLen:Int
  New:Int
  NewLen:Int
  deriving DecidableEq
structure Merged where
  Line:Int
  Parents:Int
  deriving DecidableEq
structure Row where
  Lost:Bool
  Marks:Int
  Text:Str
  deriving DecidableEq
structure Table where
  Parents:Int
  Rows:List Row
  deriving DecidableEq
structure Hunk where
  First:Int
  Last:Int
  Old:Span
  New:Span
  deriving DecidableEq
structure PatchLine where
  Kind:UInt8
  Text:Str
  deriving DecidableEq
structure PatchHunk where
  Old:Int
  New:Int
  Lines:List PatchLine
  deriving DecidableEq
structure Patch where
  OldName:Str
  NewName:Str
  Hunks:List PatchHunk
  deriving DecidableEq
def spanC:Span->Nat->Cell:=fun s j=>match j with
  | 0=>.v (.int .i64 s.From)
  | _=>.v (.int .i64 s.To)
def changeC:Change->Nat->Cell:=fun s j=>match j with
  | 0=>.v (.int .i64 s.Old)
  | 1=>.v (.int .i64 s.OldLen)
  | 2=>.v (.int .i64 s.New)
  | _=>.v (.int .i64 s.NewLen)
def mergedC:Merged->Nat->Cell:=fun s j=>match j with
  | 0=>.v (.int .i64 s.Line)
  | _=>.v (.int .u32 s.Parents)
def rowC:Row->Nat->Cell:=fun s j=>match j with
  | 0=>.v (.bool s.Lost)
  | 1=>.v (.int .u32 s.Marks)
  | _=>.v (.string ⟨s.Text.toArray⟩)
abbrev pByte(c:UInt8):PV:=.one (.v (.int .u8 c.toNat))
abbrev pSpans(l:List Span):PV:=.one (.list Span 2 spanC l)
abbrev pChanges(l:List Change):PV:=.one (.list Change 4 changeC l)
abbrev pRows(l:List Row):PV:=.one (.list Row 3 rowC l)
abbrev pMerged(l:List Merged):PV:=.one (.list Merged 2 mergedC l)
abbrev pRow(r:Row):PV:=.agg [.v (.bool r.Lost),.v (.int .u32 r.Marks),.v (.string ⟨r.Text.toArray⟩)]
abbrev pTable(t:Table):PV:=.agg [.v (.int .i64 t.Parents),.list Row 3 rowC t.Rows]
abbrev intssC:List (List Int)->Nat->Cell:=fun l _=>.list (List Int) 1 intsC l
abbrev pStrss(l:List (List Str)):PV:=.one (.list (List Str) 1 strsC l)
abbrev pIntss(l:List (List Int)):PV:=.one (.list (List Int) 1 intsC l)
end Go.AL
