/-
 CombinedFull: the diff with every row holds every row, and drops nothing that is marked.
 Conditions: none but the statement's own bound on the input.
-/
import Derived.Test.YtbiadkkamhpdnaaGreatDoorTm
import Derived.Test.YtbiadkkamhpdnaaGreatDoorCards
import Derived.Test.YtbiadkkamhpdnaaGreatDoorTie
set_option linter.unusedSimpArgs false
namespace Go.Proofs.YtbiadkkamhpdnaaGreatDoor
open Go Go.AL Go.ChangeShapes Go.WideShapes Go.RowKit
set_option maxRecDepth 100000
theorem plain (f:FuncId) (fn:Func) (hf:Tryz.pinned.checked.prog.funcNamed "mergelens/mergelenslaw18.CombinedFull"=some f) (hfn:Tryz.pinned.checked.prog.funcs[f]?=some fn) :
  false=Tryz.pinned.checked.prog.looks []∧∀(j:Nat) t,fn.params[j]?=some t→Tryz.pinned.checked.prog.wantsStandIn t=false:=by
 obtain rfl:f=8:=Option.some.inj ((show Tryz.prog.funcNamed "mergelens/mergelenslaw18.CombinedFull"=some 8 by kernel_rfl).symm.trans hf) |>.symm
 obtain rfl:fn=Tryz.f8:=(Option.some.inj (Tryz.func8.symm.trans hfn)).symm
 refine ⟨by kernel_rfl,fun j t ht=>?_⟩
 rw [Tryz.params8] at ht
 have hm:=Array.mem_of_getElem? ht
 simp only [List.mem_toArray,J53,J49,or_false] at hm
 rcases hm with rfl | rfl
 ·exact (show Tryz.prog.wantsStandIn 25=false by kernel_rfl)
 ·exact (show Tryz.prog.wantsStandIn 3=false by kernel_rfl)
theorem main_is:Tryz.pinned.checked.prog.mainIs=some (((true, "2462e95ea0fd5ef9c661f4e1d39064f6af6b29f0f48f43c8b4460dee82ba11ac")).1,((true, "2462e95ea0fd5ef9c661f4e1d39064f6af6b29f0f48f43c8b4460dee82ba11ac")).2.toList):=by kernel_rfl
theorem goes_by:false=Rows.combinedFullUptoRow.goesBy Tryz.pinned.checked.prog:=by kernel_rfl
theorem by_text:Rows.combinedFullUptoRow.wfByText (Rows.OpenSpec.upto Rows.combinedFullSpec)=true:=by kernel_rfl
theorem combinedFull_card:Rows.CombinedFullUptoCardSaid :=
 Claim7.holds_tied_plain_at .later [] _ _ _ _ C52 (fun _ h=>by cases h) by_text (fun _ h=>by cases h) combinedFullUpto_row_tie rfl ⟨rfl,rfl⟩ main_is rfl plain goes_by
#print axioms combinedFull_card
end Go.Proofs.YtbiadkkamhpdnaaGreatDoor
