/-
 PickaxeWhole: for the pattern of a whole line, the lines found are those removed and added lines that are equal to it, and their numbers are those of the blobs.
 Conditions: none but the statement's own bound on the input.
-/
import Derived.Test.YtkahafmcmiiolaaGreatDoorTm
import Derived.Test.YtkahafmcmiiolaaGreatDoorCards
import Derived.Test.YtkahafmcmiiolaaGreatDoorTie
set_option linter.unusedSimpArgs false
namespace Go.Proofs.YtkahafmcmiiolaaGreatDoor
open Go Go.AL Go.ChangeShapes Go.WideShapes Go.RowKit
set_option maxRecDepth 100000
theorem plain (f:FuncId) (fn:Func) (hf:Tryz.pinned.checked.prog.funcNamed "mergelens/mergelenslaw28.PickaxeWhole"=some f) (hfn:Tryz.pinned.checked.prog.funcs[f]?=some fn) :
  true=Tryz.pinned.checked.prog.looks []∧∀(j:Nat) t,fn.params[j]?=some t→Tryz.pinned.checked.prog.wantsStandIn t=false:=by
 obtain rfl:f=4:=Option.some.inj ((show Tryz.prog.funcNamed "mergelens/mergelenslaw28.PickaxeWhole"=some 4 by kernel_rfl).symm.trans hf) |>.symm
 obtain rfl:fn=Tryz.f4:=(Option.some.inj (Tryz.func4.symm.trans hfn)).symm
 refine ⟨by kernel_rfl,fun j t ht=>?_⟩
 rw [Tryz.params4] at ht
 have hm:=Array.mem_of_getElem? ht
 simp only [List.mem_toArray,J88,List.not_mem_nil,or_false] at hm
 rcases hm with rfl | rfl
 ·exact (show Tryz.prog.wantsStandIn 22=false by kernel_rfl)
 ·exact (show Tryz.prog.wantsStandIn 3=false by kernel_rfl)
theorem main_is:Tryz.pinned.checked.prog.mainIs=some (((true, "a2fa978dcf14acb38f91b10f176f6aadeb72ba5270bffd43e2698997a82e1e77")).1,((true, "a2fa978dcf14acb38f91b10f176f6aadeb72ba5270bffd43e2698997a82e1e77")).2.toList):=by kernel_rfl
theorem goes_by:false=Rows.pickaxeWholeUptoRow.goesBy Tryz.pinned.checked.prog:=by kernel_rfl
theorem by_text:Rows.pickaxeWholeUptoRow.wfByText (Rows.OpenSpec.upto Rows.pickaxeWholeSpec)=true:=by kernel_rfl
theorem pickaxeWhole_card:Rows.PickaxeWholeUptoCardSaid :=
 Claim7.holds_tied_plain_at .later [] _ _ _ _ C91 (fun _ h=>by cases h) by_text (fun _ h=>by cases h) pickaxeWholeUpto_row_tie rfl ⟨rfl,rfl⟩ main_is rfl plain goes_by
#print axioms pickaxeWhole_card
end Go.Proofs.YtkahafmcmiiolaaGreatDoor
