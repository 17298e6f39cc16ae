/-
 TopRanges: the output of lines lists the commits of linelog.Log with their ranges, in the order of the log, and every origin of blame within the range is among them
 Conditions: none but the statement's own bound on the input.
-/
import Derived.Test.YtbflhoahmmfkmaaGreatDoorTm
import Derived.Test.YtbflhoahmmfkmaaGreatDoorCards
import Derived.Test.YtbflhoahmmfkmaaGreatDoorTie
set_option linter.all false
namespace Go.Proofs.YtbflhoahmmfkmaaGreatDoor
open Go Go.AL Go.ChangeShapes Go.WideShapes Go.RowKit
set_option maxRecDepth 100000
theorem plain(f:FuncId)(fn:Func)(hf:Tryz.pinned.checked.prog.funcNamed "mergelens/mergelenstop.TopRanges"=some f)(hfn:Tryz.pinned.checked.prog.funcs[f]?=some fn) :
  true=Tryz.pinned.checked.prog.looks []/\∀(j:Nat) t,fn.params[j]?=some t->Tryz.pinned.checked.prog.wantsStandIn t=false:=by
 obtain rfl:f=4:=Option.some.inj ((show Tryz.prog.funcNamed "mergelens/mergelenstop.TopRanges"=some 4 by kernel_rfl).symm.trans hf) |>.symm;obtain rfl:fn=Tryz.f4:=(Option.some.inj (Tryz.func4.symm.trans hfn)).symm;refine⟨by kernel_rfl,fun j t ht=>?_⟩;rw[Tryz.params4]at ht;have hm:=Array.mem_of_getElem? ht;simp only[List.mem_toArray,XB,List.not_mem_nil,or_false]at hm;rcases hm with rfl | rfl | rfl | rfl | rfl
 ·exact (show Tryz.prog.wantsStandIn 22=false by kernel_rfl)
 ·exact (show Tryz.prog.wantsStandIn 3=false by kernel_rfl)
 ·exact (show Tryz.prog.wantsStandIn 3=false by kernel_rfl)
 ·exact (show Tryz.prog.wantsStandIn 3=false by kernel_rfl)
 ·exact (show Tryz.prog.wantsStandIn 3=false by kernel_rfl)
theorem PU:Tryz.pinned.checked.prog.mainIs=some (((true, "7c4e4b9732550680870e1eaad375d999aaebee9403ad0ec03cb72ba7b61fd671")).1,((true, "7c4e4b9732550680870e1eaad375d999aaebee9403ad0ec03cb72ba7b61fd671")).2.toList):=by kernel_rfl
theorem PW:false=Rows.topRangesUptoRow.goesBy Tryz.pinned.checked.prog:=by kernel_rfl
theorem PX:Rows.topRangesUptoRow.wfByText (Rows.OpenSpec.upto Rows.topRangesSpec)=true:=by kernel_rfl
theorem topRanges_card:Rows.TopRangesUptoCardSaid :=
 Claim7.holds_tied_plain_at .later [] _ _ _ _ tJ (fun _ h=>by cases h) PX (fun _ h=>by cases h) topRangesUpto_row_tie rfl ⟨rfl,rfl⟩ PU rfl plain PW
#print axioms topRanges_card
end Go.Proofs.YtbflhoahmmfkmaaGreatDoor
