/-
 TopReplays: TopReplays: the patches of a file along first parents, from a root to a commit, applied one after the other to the empty text, give the file.
 Conditions: none but the statement's own bound on the input.
-/
import Derived.Test.YtmbpmaofnddkoaaGreatDoorTm
import Derived.Test.YtmbpmaofnddkoaaGreatDoorCards
import Derived.Test.YtmbpmaofnddkoaaGreatDoorTie
set_option linter.all false
namespace Go.Proofs.YtmbpmaofnddkoaaGreatDoor
open Go Go.AL Go.ChangeShapes Go.WideShapes Go.RowKit
set_option maxRecDepth 100000
theorem plain(f:FuncId)(fn:Func)(hf:Tryz.pinned.checked.prog.funcNamed "mergelens/mergelenstop.TopReplays"=some f)(hfn:Tryz.pinned.checked.prog.funcs[f]?=some fn) :
  true=Tryz.pinned.checked.prog.looks []/\∀(j:Nat) t,fn.params[j]?=some t->Tryz.pinned.checked.prog.wantsStandIn t=false:=by
 obtain rfl:f=3:=B81 ((show Tryz.prog.funcNamed "mergelens/mergelenstop.TopReplays"=some 3 by kernel_rfl).symm.trans hf) |>.symm;obtain rfl:fn=Tryz.f3:=(B81 (Tryz.func3.symm.trans hfn)).symm;refine⟨by kernel_rfl,fun j t ht=>?_⟩;rw[Tryz.params3]at ht;have hm:=Array.mem_of_getElem? ht;simp only[List.mem_toArray,B34,C00,or_false]at hm;rcases hm with rfl | rfl | rfl | rfl
 ·exact (show Tryz.prog.wantsStandIn 22=false by kernel_rfl)
 ·exact (show Tryz.prog.wantsStandIn 3=false by kernel_rfl)
 ·exact (show Tryz.prog.wantsStandIn 3=false by kernel_rfl)
 ·exact (show Tryz.prog.wantsStandIn 3=false by kernel_rfl)
theorem main_is:Tryz.pinned.checked.prog.mainIs=some (((true, "913ec8ab19da00fcc915efa08492784a6135b21b5e6ea462006a21f1021626f4")).1,((true, "913ec8ab19da00fcc915efa08492784a6135b21b5e6ea462006a21f1021626f4")).2.toList):=by kernel_rfl
theorem goes_by:false=Rows.topReplaysUptoRow.goesBy Tryz.pinned.checked.prog:=by kernel_rfl
theorem by_text:Rows.topReplaysUptoRow.wfByText (Rows.OpenSpec.upto Rows.topReplaysSpec)=true:=by kernel_rfl
theorem topReplays_card:Rows.TopReplaysUptoCardSaid :=
 Claim7.holds_tied_plain_at .later [] _ _ _ _ zA (fun _ h=>by cases h) by_text (fun _ h=>by cases h) topReplaysUpto_row_tie rfl ⟨rfl,rfl⟩ main_is rfl plain goes_by
#print axioms topReplays_card
end Go.Proofs.YtmbpmaofnddkoaaGreatDoor
