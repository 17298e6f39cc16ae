/-
 CombinedChecks: Check and Format of the program and of the reference agree, for every combined diff.
 Conditions: none but the statement's own bound on the input.
-/
import Derived.Test.YtbiadkkamhpdnaaGreatDoorTm
import Derived.Test.YtbiadkkamhpdnaaGreatDoorCards
import Derived.Test.YtbiadkkamhpdnaaGreatDoorTie
set_option linter.unusedSimpArgs false
namespace Go.Proofs.YtbiadkkamhpdnaaGreatDoor
open Go Go.AL Go.ChangeShapes Go.WideShapes Go.RowKit
set_option maxRecDepth 100000
theorem plain (f:FuncId) (fn:Func) (hf:Tryz.pinned.checked.prog.funcNamed "mergelens/mergelenslaw18.CombinedChecks"=some f) (hfn:Tryz.pinned.checked.prog.funcs[f]?=some fn) :
  false=Tryz.pinned.checked.prog.looks []∧∀(j:Nat) t,fn.params[j]?=some t→Tryz.pinned.checked.prog.wantsStandIn t=false:=by
 obtain rfl:f=6:=Option.some.inj ((show Tryz.prog.funcNamed "mergelens/mergelenslaw18.CombinedChecks"=some 6 by kernel_rfl).symm.trans hf) |>.symm
 obtain rfl:fn=Tryz.f6:=(Option.some.inj (Tryz.func6.symm.trans hfn)).symm
 refine ⟨by kernel_rfl,fun j t ht=>?_⟩
 rw [Tryz.params6] at ht
 have hm:=Array.mem_of_getElem? ht
 simp only [List.mem_toArray,K54,K55,or_false] at hm
 rcases hm with rfl | rfl | rfl | rfl | rfl | rfl
 ·exact (show Tryz.prog.wantsStandIn 56=false by kernel_rfl)
 ·exact (show Tryz.prog.wantsStandIn 25=false by kernel_rfl)
 ·exact (show Tryz.prog.wantsStandIn 3=false by kernel_rfl)
 ·exact (show Tryz.prog.wantsStandIn 3=false by kernel_rfl)
 ·exact (show Tryz.prog.wantsStandIn 3=false by kernel_rfl)
 ·exact (show Tryz.prog.wantsStandIn 3=false by kernel_rfl)
theorem main_is:Tryz.pinned.checked.prog.mainIs=some (((true, "2462e95ea0fd5ef9c661f4e1d39064f6af6b29f0f48f43c8b4460dee82ba11ac")).1,((true, "2462e95ea0fd5ef9c661f4e1d39064f6af6b29f0f48f43c8b4460dee82ba11ac")).2.toList):=by kernel_rfl
theorem goes_by:false=Rows.combinedChecksUptoRow.goesBy Tryz.pinned.checked.prog:=by kernel_rfl
theorem by_text:Rows.combinedChecksUptoRow.wfByText (Rows.OpenSpec.upto Rows.combinedChecksSpec)=true:=by kernel_rfl
theorem combinedChecks_card:Rows.CombinedChecksUptoCardSaid :=
 Claim7.holds_tied_plain_at .later [] _ _ _ _ C33 (fun _ h=>by cases h) by_text (fun _ h=>by cases h) combinedChecksUpto_row_tie rfl ⟨rfl,rfl⟩ main_is rfl plain goes_by
#print axioms combinedChecks_card
end Go.Proofs.YtbiadkkamhpdnaaGreatDoor
