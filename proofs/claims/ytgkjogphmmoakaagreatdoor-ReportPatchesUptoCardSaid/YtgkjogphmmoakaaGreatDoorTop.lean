/-
 ReportPatches: the output of diff, parsed and applied to the file of the first commit, gives that of the second one
 Conditions: none but the statement's own bound on the input.
-/
import Derived.Test.YtgkjogphmmoakaaGreatDoorTm
import Derived.Test.YtgkjogphmmoakaaGreatDoorCards
import Derived.Test.YtgkjogphmmoakaaGreatDoorTie
set_option linter.all false
namespace Go.Proofs.YtgkjogphmmoakaaGreatDoor
open Go Go.AL Go.ChangeShapes Go.WideShapes Go.RowKit
set_option maxRecDepth 100000
theorem plain(f:FuncId)(fn:Func)(hf:Tryz.pinned.checked.prog.funcNamed "mergelens/mergelenslaw33.ReportPatches"=some f)(hfn:Tryz.pinned.checked.prog.funcs[f]?=some fn) :
  true=Tryz.pinned.checked.prog.looks []/\∀(j:Nat) t,fn.params[j]?=some t->Tryz.pinned.checked.prog.wantsStandIn t=false:=by
 obtain rfl:f=4:=Option.some.inj ((show Tryz.prog.funcNamed "mergelens/mergelenslaw33.ReportPatches"=some 4 by kernel_rfl).symm.trans hf) |>.symm;obtain rfl:fn=Tryz.f4:=(Option.some.inj (Tryz.func4.symm.trans hfn)).symm;refine⟨by kernel_rfl,fun j t ht=>?_⟩;rw[Tryz.params4]at ht;have hm:=Array.mem_of_getElem? ht;simp only[List.mem_toArray,A39,A75,or_false]at hm;rcases hm with rfl | rfl | rfl | rfl
 ·exact (show Tryz.prog.wantsStandIn 22=false by kernel_rfl)
 ·exact (show Tryz.prog.wantsStandIn 3=false by kernel_rfl)
 ·exact (show Tryz.prog.wantsStandIn 3=false by kernel_rfl)
 ·exact (show Tryz.prog.wantsStandIn 3=false by kernel_rfl)
theorem YH:Tryz.pinned.checked.prog.mainIs=some (((true, "bcbd74a9b5dc714a1bcafb181cd420fa7eb3837cd4966a4e5170c06d08c2f8db")).1,((true, "bcbd74a9b5dc714a1bcafb181cd420fa7eb3837cd4966a4e5170c06d08c2f8db")).2.toList):=by kernel_rfl
theorem YI:false=Rows.reportPatchesUptoRow.goesBy Tryz.pinned.checked.prog:=by kernel_rfl
theorem YJ:Rows.reportPatchesUptoRow.wfByText (Rows.OpenSpec.upto Rows.reportPatchesSpec)=true:=by kernel_rfl
theorem reportPatches_card:Rows.ReportPatchesUptoCardSaid :=
 Claim7.holds_tied_plain_at .later [] _ _ _ _ nW (fun _ h=>by cases h) YJ (fun _ h=>by cases h) reportPatchesUpto_row_tie rfl ⟨rfl,rfl⟩ YH rfl plain YI
#print axioms reportPatches_card
end Go.Proofs.YtgkjogphmmoakaaGreatDoor
