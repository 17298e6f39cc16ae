/-
 PickaxeRefuses: needles and patterns that are empty, too long or malformed are refused, and graphs that are not valid.
 Conditions: none but the statement's own bound on the input.
-/
import Derived.Test.YtjmoigcpoopjhaaGreatDoorTm
import Derived.Test.YtjmoigcpoopjhaaGreatDoorCards
import Derived.Test.YtjmoigcpoopjhaaGreatDoorTie
set_option linter.unusedSimpArgs false
namespace Go.Proofs.YtjmoigcpoopjhaaGreatDoor
open Go Go.AL Go.ChangeShapes Go.WideShapes Go.RowKit
set_option maxRecDepth 100000
theorem plain (f:FuncId) (fn:Func) (hf:Tryz.pinned.checked.prog.funcNamed "mergelens/mergelenslaw28.PickaxeRefuses"=some f) (hfn:Tryz.pinned.checked.prog.funcs[f]?=some fn) :
  true=Tryz.pinned.checked.prog.looks []∧∀(j:Nat) t,fn.params[j]?=some t→Tryz.pinned.checked.prog.wantsStandIn t=false:=by
 obtain rfl:f=3:=Option.some.inj ((show Tryz.prog.funcNamed "mergelens/mergelenslaw28.PickaxeRefuses"=some 3 by kernel_rfl).symm.trans hf) |>.symm
 obtain rfl:fn=Tryz.f3:=(Option.some.inj (Tryz.func3.symm.trans hfn)).symm
 refine ⟨by kernel_rfl,fun j t ht=>?_⟩
 rw [Tryz.params3] at ht
 have hm:=Array.mem_of_getElem? ht
 simp only [List.mem_toArray,L23,L47,or_false] at hm
 rcases hm with rfl | rfl | rfl
 ·exact (show Tryz.prog.wantsStandIn 22=false by kernel_rfl)
 ·exact (show Tryz.prog.wantsStandIn 3=false by kernel_rfl)
 ·exact (show Tryz.prog.wantsStandIn 3=false by kernel_rfl)
theorem main_is:Tryz.pinned.checked.prog.mainIs=some (((true, "52410bf9004d4402c879b3ae1aad6deaa260b5a1e17674dbab822edbca9be531")).1,((true, "52410bf9004d4402c879b3ae1aad6deaa260b5a1e17674dbab822edbca9be531")).2.toList):=by kernel_rfl
theorem goes_by:false=Rows.pickaxeRefusesUptoRow.goesBy Tryz.pinned.checked.prog:=by kernel_rfl
theorem by_text:Rows.pickaxeRefusesUptoRow.wfByText (Rows.OpenSpec.upto Rows.pickaxeRefusesSpec)=true:=by kernel_rfl
theorem pickaxeRefuses_card:Rows.PickaxeRefusesUptoCardSaid :=
 Claim7.holds_tied_plain_at .later [] _ _ _ _ C64 (fun _ h=>by cases h) by_text (fun _ h=>by cases h) pickaxeRefusesUpto_row_tie rfl ⟨rfl,rfl⟩ main_is rfl plain goes_by
#print axioms pickaxeRefuses_card
end Go.Proofs.YtjmoigcpoopjhaaGreatDoor
