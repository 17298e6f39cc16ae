/-
 ReportRefuses: graphs that are not valid are refused, and too many lines
 Conditions: none but the statement's own bound on the input.
-/
import Derived.Test.YtbflhoahmmfkmaaGreatDoorTm
import Derived.Test.YtbflhoahmmfkmaaGreatDoorCards
import Derived.Test.YtbflhoahmmfkmaaGreatDoorTie
set_option linter.all false
namespace Go.Proofs.YtbflhoahmmfkmaaGreatDoor
open Go Go.AL Go.ChangeShapes Go.WideShapes Go.RowKit
set_option maxRecDepth 100000
theorem plain(f:FuncId)(fn:Func)(hf:Tryz.pinned.checked.prog.funcNamed "mergelens/mergelenslaw33.ReportRefuses"=some f)(hfn:Tryz.pinned.checked.prog.funcs[f]?=some fn) :
  true=Tryz.pinned.checked.prog.looks []/\∀(j:Nat) t,fn.params[j]?=some t->Tryz.pinned.checked.prog.wantsStandIn t=false:=by
 obtain rfl:f=5:=Option.some.inj ((show Tryz.prog.funcNamed "mergelens/mergelenslaw33.ReportRefuses"=some 5 by kernel_rfl).symm.trans hf) |>.symm;obtain rfl:fn=Tryz.f5:=(Option.some.inj (Tryz.func5.symm.trans hfn)).symm;refine⟨by kernel_rfl,fun j t ht=>?_⟩;rw[Tryz.params5]at ht;have hm:=Array.mem_of_getElem? ht;simp only[List.mem_toArray,HZ,List.not_mem_nil,or_false]at hm;rcases hm with rfl | rfl | rfl | rfl
 ·exact (show Tryz.prog.wantsStandIn 23=false by kernel_rfl)
 ·exact (show Tryz.prog.wantsStandIn 37=false by kernel_rfl)
 ·exact (show Tryz.prog.wantsStandIn 9=false by kernel_rfl)
 ·exact (show Tryz.prog.wantsStandIn 3=false by kernel_rfl)
theorem BD:Tryz.pinned.checked.prog.mainIs=some (((true, "7c4e4b9732550680870e1eaad375d999aaebee9403ad0ec03cb72ba7b61fd671")).1,((true, "7c4e4b9732550680870e1eaad375d999aaebee9403ad0ec03cb72ba7b61fd671")).2.toList):=by kernel_rfl
theorem BE:false=Rows.reportRefusesUptoRow.goesBy Tryz.pinned.checked.prog:=by kernel_rfl
theorem BF:Rows.reportRefusesUptoRow.wfByText (Rows.OpenSpec.upto Rows.reportRefusesSpec)=true:=by kernel_rfl
theorem reportRefuses_card:Rows.ReportRefusesUptoCardSaid :=
 Claim7.holds_tied_plain_at .later [] _ _ _ _ cT (fun _ h=>by cases h) BF (fun _ h=>by cases h) reportRefusesUpto_row_tie rfl ⟨rfl,rfl⟩ BD rfl plain BE
#print axioms reportRefuses_card
end Go.Proofs.YtbflhoahmmfkmaaGreatDoor
