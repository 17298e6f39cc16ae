/-
 TopBlame: the lines at the origins of blame, read from the commits that its output names, are the lines of the file
 Conditions: none but the statement's own bound on the input.
-/
import Derived.Test.YtbflhoahmmfkmaaGreatDoorTm
import Derived.Test.YtbflhoahmmfkmaaGreatDoorCards
import Derived.Test.YtbflhoahmmfkmaaGreatDoorTie
set_option linter.all false
namespace Go.Proofs.YtbflhoahmmfkmaaGreatDoor
open Go Go.AL Go.ChangeShapes Go.WideShapes Go.RowKit
set_option maxRecDepth 100000
theorem plain(f:FuncId)(fn:Func)(hf:Tryz.pinned.checked.prog.funcNamed "mergelens/mergelenstop.TopBlame"=some f)(hfn:Tryz.pinned.checked.prog.funcs[f]?=some fn) :
  true=Tryz.pinned.checked.prog.looks []/\∀(j:Nat) t,fn.params[j]?=some t->Tryz.pinned.checked.prog.wantsStandIn t=false:=by
 obtain rfl:f=3:=Option.some.inj ((show Tryz.prog.funcNamed "mergelens/mergelenstop.TopBlame"=some 3 by kernel_rfl).symm.trans hf) |>.symm;obtain rfl:fn=Tryz.f3:=(Option.some.inj (Tryz.func3.symm.trans hfn)).symm;refine⟨by kernel_rfl,fun j t ht=>?_⟩;rw[Tryz.params3]at ht;have hm:=Array.mem_of_getElem? ht;simp only[List.mem_toArray,RN,TG,or_false]at hm;rcases hm with rfl | rfl | rfl
 ·exact (show Tryz.prog.wantsStandIn 22=false by kernel_rfl)
 ·exact (show Tryz.prog.wantsStandIn 3=false by kernel_rfl)
 ·exact (show Tryz.prog.wantsStandIn 3=false by kernel_rfl)
theorem KD:Tryz.pinned.checked.prog.mainIs=some (((true, "7c4e4b9732550680870e1eaad375d999aaebee9403ad0ec03cb72ba7b61fd671")).1,((true, "7c4e4b9732550680870e1eaad375d999aaebee9403ad0ec03cb72ba7b61fd671")).2.toList):=by kernel_rfl
theorem KE:false=Rows.topBlameUptoRow.goesBy Tryz.pinned.checked.prog:=by kernel_rfl
theorem KF:Rows.topBlameUptoRow.wfByText (Rows.OpenSpec.upto Rows.topBlameSpec)=true:=by kernel_rfl
theorem topBlame_card:Rows.TopBlameUptoCardSaid :=
 Claim7.holds_tied_plain_at .later [] _ _ _ _ qO (fun _ h=>by cases h) KF (fun _ h=>by cases h) topBlameUpto_row_tie rfl ⟨rfl,rfl⟩ KD rfl plain KE
#print axioms topBlame_card
end Go.Proofs.YtbflhoahmmfkmaaGreatDoor
