/-
 PickaxeExact: PickaxeExact: the commits listed are the ancestors of the start at which some path shows another count, in the order of the log.
 Conditions: none but the statement's own bound on the input.
-/
import Derived.Test.YtgppobpengmbkaaGreatDoorTm
import Derived.Test.YtgppobpengmbkaaGreatDoorCards
import Derived.Test.YtgppobpengmbkaaGreatDoorTie
set_option linter.unusedSimpArgs false
namespace Go.Proofs.YtgppobpengmbkaaGreatDoor
open Go Go.AL Go.ChangeShapes Go.WideShapes Go.RowKit
set_option maxRecDepth 100000
theorem plain (f:FuncId) (fn:Func) (hf:Tryz.pinned.checked.prog.funcNamed "mergelens/mergelenslaw28.PickaxeExact"=some f) (hfn:Tryz.pinned.checked.prog.funcs[f]?=some fn) :
  true=Tryz.pinned.checked.prog.looks []∧∀(j:Nat) t,fn.params[j]?=some t→Tryz.pinned.checked.prog.wantsStandIn t=false:=by
 obtain rfl:f=3:=Option.some.inj ((show Tryz.prog.funcNamed "mergelens/mergelenslaw28.PickaxeExact"=some 3 by kernel_rfl).symm.trans hf) |>.symm
 obtain rfl:fn=Tryz.f3:=(Option.some.inj (Tryz.func3.symm.trans hfn)).symm
 refine ⟨by kernel_rfl,fun j t ht=>?_⟩
 rw [Tryz.params3] at ht
 have hm:=Array.mem_of_getElem? ht
 simp only [List.mem_toArray,J44,List.not_mem_nil,or_false] at hm
 rcases hm with rfl | rfl
 ·exact (show Tryz.prog.wantsStandIn 22=false by kernel_rfl)
 ·exact (show Tryz.prog.wantsStandIn 3=false by kernel_rfl)
theorem main_is:Tryz.pinned.checked.prog.mainIs=some (((true, "780fcfdf633f4bdd670275214fa76cf94328f92d3cb4d01a36019a7ec7df8d93")).1,((true, "780fcfdf633f4bdd670275214fa76cf94328f92d3cb4d01a36019a7ec7df8d93")).2.toList):=by kernel_rfl
theorem goes_by:false=Rows.pickaxeExactUptoRow.goesBy Tryz.pinned.checked.prog:=by kernel_rfl
theorem by_text:Rows.pickaxeExactUptoRow.wfByText (Rows.OpenSpec.upto Rows.pickaxeExactSpec)=true:=by kernel_rfl
theorem pickaxeExact_card:Rows.PickaxeExactUptoCardSaid :=
 Claim7.holds_tied_plain_at .later [] _ _ _ _ C67 (fun _ h=>by cases h) by_text (fun _ h=>by cases h) pickaxeExactUpto_row_tie rfl ⟨rfl,rfl⟩ main_is rfl plain goes_by
#print axioms pickaxeExact_card
end Go.Proofs.YtgppobpengmbkaaGreatDoor
