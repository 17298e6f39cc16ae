/-
 PickaxeRegex: Regex returns the commits and error of the reference, for drawn graphs and drawn patterns.
 Conditions: none but the statement's own bound on the input.
-/
import Derived.Test.YtabbdaafimcjhaaGreatDoorTm
import Derived.Test.YtabbdaafimcjhaaGreatDoorCards
import Derived.Test.YtabbdaafimcjhaaGreatDoorTie
set_option linter.all false
namespace Go.Proofs.YtabbdaafimcjhaaGreatDoor
open Go Go.AL Go.ChangeShapes Go.WideShapes Go.RowKit
set_option maxRecDepth 100000
theorem plain(f:FuncId)(fn:Func)(hf:Tryz.pinned.checked.prog.funcNamed "mergelens/mergelenslaw28.PickaxeRegex"=some f)(hfn:Tryz.pinned.checked.prog.funcs[f]?=some fn) :
  true=Tryz.pinned.checked.prog.looks []/\∀(j:Nat) t,fn.params[j]?=some t->Tryz.pinned.checked.prog.wantsStandIn t=false:=by
 obtain rfl:f=3:=C85 ((show Tryz.prog.funcNamed "mergelens/mergelenslaw28.PickaxeRegex"=some 3 by kernel_rfl).symm.trans hf) |>.symm;obtain rfl:fn=Tryz.f3:=(C85 (Tryz.func3.symm.trans hfn)).symm;refine⟨by kernel_rfl,fun j t ht=>?_⟩;rw[Tryz.params3]at ht;have hm:=Array.mem_of_getElem? ht;simp only[List.mem_toArray,C50,D07,or_false]at hm;rcases hm with rfl | rfl | rfl | rfl
 ·exact (show Tryz.prog.wantsStandIn 22=false by kernel_rfl)
 ·exact (show Tryz.prog.wantsStandIn 3=false by kernel_rfl)
 ·exact (show Tryz.prog.wantsStandIn 3=false by kernel_rfl)
 ·exact (show Tryz.prog.wantsStandIn 4=false by kernel_rfl)
theorem main_is:Tryz.pinned.checked.prog.mainIs=some (((true, "cfdf2e97df3cb48bc11bdef0e3945fa53b4344564c2d70e4d8a20e44332b3971")).1,((true, "cfdf2e97df3cb48bc11bdef0e3945fa53b4344564c2d70e4d8a20e44332b3971")).2.toList):=by kernel_rfl
theorem goes_by:false=Rows.pickaxeRegexUptoRow.goesBy Tryz.pinned.checked.prog:=by kernel_rfl
theorem by_text:Rows.pickaxeRegexUptoRow.wfByText (Rows.OpenSpec.upto Rows.pickaxeRegexSpec)=true:=by kernel_rfl
theorem pickaxeRegex_card:Rows.PickaxeRegexUptoCardSaid :=
 Claim7.holds_tied_plain_at .later [] _ _ _ _ xG (fun _ h=>by cases h) by_text (fun _ h=>by cases h) pickaxeRegexUpto_row_tie rfl ⟨rfl,rfl⟩ main_is rfl plain goes_by
#print axioms pickaxeRegex_card
end Go.Proofs.YtabbdaafimcjhaaGreatDoor
