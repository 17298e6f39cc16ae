/-
 ReportCommits: the lists of commits are those of the layers, line by line
 Conditions: none but the statement's own bound on the input.
-/
import Derived.Test.YtbflhoahmmfkmaaGreatDoorTm
import Derived.Test.YtbflhoahmmfkmaaGreatDoorCards
import Derived.Test.YtbflhoahmmfkmaaGreatDoorTie
set_option linter.all false
namespace Go.Proofs.YtbflhoahmmfkmaaGreatDoor
open Go Go.AL Go.ChangeShapes Go.WideShapes Go.RowKit
set_option maxRecDepth 100000
theorem plain(f:FuncId)(fn:Func)(hf:Tryz.pinned.checked.prog.funcNamed "mergelens/mergelenslaw33.ReportCommits"=some f)(hfn:Tryz.pinned.checked.prog.funcs[f]?=some fn) :
  true=Tryz.pinned.checked.prog.looks []/\∀(j:Nat) t,fn.params[j]?=some t->Tryz.pinned.checked.prog.wantsStandIn t=false:=by
 obtain rfl:f=6:=Option.some.inj ((show Tryz.prog.funcNamed "mergelens/mergelenslaw33.ReportCommits"=some 6 by kernel_rfl).symm.trans hf) |>.symm;obtain rfl:fn=Tryz.f6:=(Option.some.inj (Tryz.func6.symm.trans hfn)).symm;refine⟨by kernel_rfl,fun j t ht=>?_⟩;rw[Tryz.params6]at ht;have hm:=Array.mem_of_getElem? ht;simp only[List.mem_toArray,VH,List.not_mem_nil,or_false]at hm;rcases hm with rfl | rfl | rfl
 ·exact (show Tryz.prog.wantsStandIn 22=false by kernel_rfl)
 ·exact (show Tryz.prog.wantsStandIn 3=false by kernel_rfl)
 ·exact (show Tryz.prog.wantsStandIn 3=false by kernel_rfl)
theorem NV:Tryz.pinned.checked.prog.mainIs=some (((true, "7c4e4b9732550680870e1eaad375d999aaebee9403ad0ec03cb72ba7b61fd671")).1,((true, "7c4e4b9732550680870e1eaad375d999aaebee9403ad0ec03cb72ba7b61fd671")).2.toList):=by kernel_rfl
theorem NW:false=Rows.reportCommitsUptoRow.goesBy Tryz.pinned.checked.prog:=by kernel_rfl
theorem NX:Rows.reportCommitsUptoRow.wfByText (Rows.OpenSpec.upto Rows.reportCommitsSpec)=true:=by kernel_rfl
theorem reportCommits_card:Rows.ReportCommitsUptoCardSaid :=
 Claim7.holds_tied_plain_at .later [] _ _ _ _ jK (fun _ h=>by cases h) NX (fun _ h=>by cases h) reportCommitsUpto_row_tie rfl ⟨rfl,rfl⟩ NV rfl plain NW
#print axioms reportCommits_card
end Go.Proofs.YtbflhoahmmfkmaaGreatDoor
