/-
 PickaxeLiteral: the commits that change how often a string occurs, and the counts, are those of the reference.
 Conditions: none but the statement's own bound on the input.
-/
import Derived.Test.YtfhbolepaojekaaGreatDoorTm
import Derived.Test.YtfhbolepaojekaaGreatDoorCards
import Derived.Test.YtfhbolepaojekaaGreatDoorTie
set_option linter.unusedSimpArgs false
namespace Go.Proofs.YtfhbolepaojekaaGreatDoor
open Go Go.AL Go.ChangeShapes Go.WideShapes Go.RowKit
set_option maxRecDepth 100000
theorem plain (f:FuncId) (fn:Func) (hf:Tryz.pinned.checked.prog.funcNamed "mergelens/mergelenslaw28.PickaxeLiteral"=some f) (hfn:Tryz.pinned.checked.prog.funcs[f]?=some fn) :
  true=Tryz.pinned.checked.prog.looks []∧∀(j:Nat) t,fn.params[j]?=some t→Tryz.pinned.checked.prog.wantsStandIn t=false:=by
 obtain rfl:f=3:=Option.some.inj ((show Tryz.prog.funcNamed "mergelens/mergelenslaw28.PickaxeLiteral"=some 3 by kernel_rfl).symm.trans hf) |>.symm
 obtain rfl:fn=Tryz.f3:=(Option.some.inj (Tryz.func3.symm.trans hfn)).symm
 refine ⟨by kernel_rfl,fun j t ht=>?_⟩
 rw [Tryz.params3] at ht
 have hm:=Array.mem_of_getElem? ht
 simp only [List.mem_toArray,J44,List.not_mem_nil,or_false] at hm
 rcases hm with rfl | rfl | rfl | rfl
 ·exact (show Tryz.prog.wantsStandIn 22=false by kernel_rfl)
 ·exact (show Tryz.prog.wantsStandIn 3=false by kernel_rfl)
 ·exact (show Tryz.prog.wantsStandIn 9=false by kernel_rfl)
 ·exact (show Tryz.prog.wantsStandIn 4=false by kernel_rfl)
theorem main_is:Tryz.pinned.checked.prog.mainIs=some (((true, "fa481498df641ebfae0f46b93b940272c3e860ae5ba870c794aed65380ac77e0")).1,((true, "fa481498df641ebfae0f46b93b940272c3e860ae5ba870c794aed65380ac77e0")).2.toList):=by kernel_rfl
theorem goes_by:false=Rows.pickaxeLiteralUptoRow.goesBy Tryz.pinned.checked.prog:=by kernel_rfl
theorem by_text:Rows.pickaxeLiteralUptoRow.wfByText (Rows.OpenSpec.upto Rows.pickaxeLiteralSpec)=true:=by kernel_rfl
theorem pickaxeLiteral_card:Rows.PickaxeLiteralUptoCardSaid :=
 Claim7.holds_tied_plain_at .later [] _ _ _ _ B86 (fun _ h=>by cases h) by_text (fun _ h=>by cases h) pickaxeLiteralUpto_row_tie rfl ⟨rfl,rfl⟩ main_is rfl plain goes_by
#print axioms pickaxeLiteral_card
end Go.Proofs.YtfhbolepaojekaaGreatDoor
