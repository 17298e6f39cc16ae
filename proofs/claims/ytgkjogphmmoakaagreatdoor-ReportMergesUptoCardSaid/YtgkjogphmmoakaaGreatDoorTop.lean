/-
 ReportMerges: the output of combined is a combined diff with the parents of the commit, and the dense one shows at most as many rows
 Conditions: none but the statement's own bound on the input.
-/
import Derived.Test.YtgkjogphmmoakaaGreatDoorTm
import Derived.Test.YtgkjogphmmoakaaGreatDoorCards
import Derived.Test.YtgkjogphmmoakaaGreatDoorTie
set_option linter.all false
namespace Go.Proofs.YtgkjogphmmoakaaGreatDoor
open Go Go.AL Go.ChangeShapes Go.WideShapes Go.RowKit
set_option maxRecDepth 100000
theorem plain(f:FuncId)(fn:Func)(hf:Tryz.pinned.checked.prog.funcNamed "mergelens/mergelenslaw33.ReportMerges"=some f)(hfn:Tryz.pinned.checked.prog.funcs[f]?=some fn) :
  true=Tryz.pinned.checked.prog.looks []/\∀(j:Nat) t,fn.params[j]?=some t->Tryz.pinned.checked.prog.wantsStandIn t=false:=by
 obtain rfl:f=3:=Option.some.inj ((show Tryz.prog.funcNamed "mergelens/mergelenslaw33.ReportMerges"=some 3 by kernel_rfl).symm.trans hf) |>.symm;obtain rfl:fn=Tryz.f3:=(Option.some.inj (Tryz.func3.symm.trans hfn)).symm;refine⟨by kernel_rfl,fun j t ht=>?_⟩;rw[Tryz.params3]at ht;have hm:=Array.mem_of_getElem? ht;simp only[List.mem_toArray,C36,C66,or_false]at hm;rcases hm with rfl | rfl | rfl
 ·exact (show Tryz.prog.wantsStandIn 22=false by kernel_rfl)
 ·exact (show Tryz.prog.wantsStandIn 3=false by kernel_rfl)
 ·exact (show Tryz.prog.wantsStandIn 3=false by kernel_rfl)
theorem main_is:Tryz.pinned.checked.prog.mainIs=some (((true, "bcbd74a9b5dc714a1bcafb181cd420fa7eb3837cd4966a4e5170c06d08c2f8db")).1,((true, "bcbd74a9b5dc714a1bcafb181cd420fa7eb3837cd4966a4e5170c06d08c2f8db")).2.toList):=by kernel_rfl
theorem goes_by:false=Rows.reportMergesUptoRow.goesBy Tryz.pinned.checked.prog:=by kernel_rfl
theorem by_text:Rows.reportMergesUptoRow.wfByText (Rows.OpenSpec.upto Rows.reportMergesSpec)=true:=by kernel_rfl
theorem reportMerges_card:Rows.ReportMergesUptoCardSaid :=
 Claim7.holds_tied_plain_at .later [] _ _ _ _ uT (fun _ h=>by cases h) by_text (fun _ h=>by cases h) reportMergesUpto_row_tie rfl ⟨rfl,rfl⟩ main_is rfl plain goes_by
#print axioms reportMerges_card
end Go.Proofs.YtgkjogphmmoakaaGreatDoor
