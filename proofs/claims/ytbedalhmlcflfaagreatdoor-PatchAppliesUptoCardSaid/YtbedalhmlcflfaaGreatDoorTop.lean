/-
  PatchApplies: for every input of bulk at most 1048576, the program and the document give the same blob, count and errors where a drawn patch is applied to its blob, to one that is like it, and to the text given; each argument reads afterwards as it read before.
  Conditions: none but the statement's own bound on the input.
-/
import Derived.Test.YtbedalhmlcflfaaGreatDoorFb
import Derived.Test.YtbedalhmlcflfaaGreatDoorFz
import Derived.Test.YtbedalhmlcflfaaGreatDoorCards
import Derived.Test.YtbedalhmlcflfaaGreatDoorTie
namespace Go.Proofs.YtbedalhmlcflfaaGreatDoor
open Go Go.AL Go.ChangeShapes Go.WideShapes Go.RowKit
set_option maxRecDepth 100000

theorem own : ownKnob Tryz.prog.godebug = none := by kernel_rfl

theorem reads_ints : Reads Tryz.prog 22 (List Int) 1 intsC (fun l => ∀ a ∈ l, (Lit.int .i64 a).wf = true) (fun l => 1 + (l.map fun _ => 1).sum) :=
  reads_slice (reads_int Tryz.underlying3 (by kernel_rfl)) (by omega) Tryz.underlying22 (by kernel_rfl)

theorem laid_z {W : World} (hL : laidMetH Tryz.prog Rows.patchAppliesUptoRow.laid W) : laidZ Tryz.prog W := fun g hg => by
  obtain rfl : g = 3 := Option.some.inj (hg.symm.trans (show Tryz.prog.globalNamed "internal/strconv.uint64pow10" = some 3 by kernel_rfl))
  have hp : laidMet Tryz.prog Rows.patchAppliesUptoRow.laid W := hL
  have e : Rows.laid_internal_strconv_uint64pow10 (H := Unit) = Lib.tabData .u64 Lib.pow10Tab := by kernel_rfl
  exact tabIs_of_mem (t := 157) (e := 77) (n := 20) hg (by kernel_rfl) (by kernel_rfl) (by kernel_rfl) (by kernel_rfl) (by kernel_rfl) hp (by rw [← e]; simp [Rows.patchAppliesUptoRow])

theorem contract {H : Type} {enc : TypeId × Value → H} (W : World) (base : Nat) (args : Array Value) (ds gs : List (DataW H)) (before : List MemPlace) (hsh : W.ShapedOpen Tryz.prog) (hL : laidMetH Tryz.prog Rows.patchAppliesUptoRow.laid W)
    (hval : ∀ (j : Nat) t v, Tryz.f3.params[j]? = some t → args[j]? = some v → Value.okWide Tryz.prog W .any base t v)
    (hW : DataW.Whole enc Tryz.prog Tryz.f3.params.toList Rows.patchAppliesSpec.vars false W args.toList ds gs before) (hk : Rows.uptoSmall H (ds ++ gs) = true) :
    Calls Tryz.prog 3 args W fun e W' => ∃ v, e = .returned v ∧ Rows.patchAppliesSpec.post enc Tryz.prog Tryz.f3 false true false false W args v W' := by
  have hW0 := hW
  obtain ⟨p, q, hA0, hV, hbef, hfz, hnd⟩ := hW
  obtain ⟨rfl, rfl⟩ := trodVars_none hV
  have hB : Rows.uptoBulkAll ds ≤ 1048576 := by have := of_decide_eq_true hk; simpa using this
  have hA : DataW.TrodAll enc Tryz.prog W 0 (fun _ => true) true Tryz.f3.params.toList args.toList ds p := hA0
  rw [Tryz.params3] at hA hval
  obtain ⟨v0, vs0, d0, ds0, p0, q0, hargs, rfl, rfl, h0, r0⟩ := trodAll_cons hA
  obtain ⟨v1, vs1, d1, ds1, p1, q1, rfl, rfl, rfl, h1, r1⟩ := trodAll_cons r0
  obtain ⟨v2, vs2, d2, ds2, p2, q2, rfl, rfl, rfl, h2, r2⟩ := trodAll_cons r1
  obtain ⟨rfl, rfl, rfl⟩ := trodAll_nil r2
  obtain rfl : args = #[v0, v1, v2] := by cases args; simp_all
  simp only [Rows.uptoBulkAll] at hB
  obtain ⟨a0, g0, m0, t0⟩ := arg_slice reads_ints Tryz.underlying22 (hval 0 _ v0 rfl rfl) h0 (by omega)
  obtain ⟨a1, g1, m1, t1⟩ := arg_int (reads_int Tryz.underlying3 (by kernel_rfl)) Tryz.underlying3 (hval 1 _ v1 rfl rfl) h1 (by omega)
  obtain ⟨a2, g2, m2, t2⟩ := arg_string (reads_string Tryz.underlying9 (by kernel_rfl)) Tryz.underlying9 (hval 2 _ v2 rfl rfl) h2 (by omega)
  exact law_post hsh (laid_z hL) rfl rfl Tryz.underlying4 hW0 (by simpa using hbef) (pvs := [pInts a0, pInt a1, pStr a2]) ⟨_, _, t0, ⟨_, _, t1, ⟨_, _, t2, rfl, rfl⟩, rfl⟩, rfl⟩ rfl rfl rfl (lawApplies_ok a0 a1 a2)

noncomputable def laidWorld (os : Os) : World :=
  let w0 := World.holding Tryz.prog os ⟨#[], #[], []⟩
  let put (h : Array Obj) (g : Nat) (cs : Array Value) : Array Obj := h.modify g fun
    | .cells _ t frozen => .cells cs t frozen
    | o => o
  { w0 with heap := put (put (put (put (put (w0.heap) 4 (Lib.deBruijn32tab.map fun (z : Nat) => Value.int .u8 (z : Int)).toArray) 5 (Lib.deBruijn64tab.map fun (z : Nat) => Value.int .u8 (z : Int)).toArray) 3 (Lib.pow10Tab.map fun z => Value.int .u64 z).toArray) 2 ((List.range 16).flatMap fun i => [Value.int .u8 (Lib.accLo i), Value.int .u8 (Lib.accHi i)]).toArray) 1 (Lib.firstTab.map fun z => Value.int .u8 z).toArray }
theorem laid_met (os : Os) (args : Array Value) : laidMet Tryz.prog Rows.patchAppliesUptoRow.laid ((laidWorld os).forCall (fun _ _ => 0) ⟨#[], args, []⟩).memory :=
  laidMet_of_run3 10 (by kernel_rfl) (by kernel_rfl) (by kernel_rfl)
theorem reads (os : Os) {H : Type} (enc : TypeId × Value → H) : ∃ places, DataW.whole enc Tryz.prog ((laidWorld os).forCall (fun _ _ => 0) ⟨#[], #[.slice none 0 0, .int .i64 0, .string ⟨#[]⟩], []⟩).memory Tryz.f3.params.toList Rows.patchAppliesSpec.vars false #[.slice none 0 0, .int .i64 0, .string ⟨#[]⟩].toList 8 = some ([.nil, .lit (.int .i64 0), .lit (.string [])], [], places) :=
  ⟨[], by kernel_rfl⟩

theorem lifted (os : Os) (started : os.Started) (H : Type) (enc : TypeId × Value → H) (F : Stop.Interp) :
    ReturnsInHanded {} Tryz.checked os 3 .any ((Rows.OpenSpec.upto Rows.patchAppliesSpec).preRow enc Tryz.prog Tryz.f3 Rows.patchAppliesUptoRow.domain false Rows.patchAppliesUptoRow.laid) (((Rows.OpenSpec.upto Rows.patchAppliesSpec).at F).post enc Tryz.prog Tryz.f3 false true false false) := by
  obtain ⟨places, hx⟩ := reads os enc
  refine returnsInHanded_of_row (C := Tryz.checked) (s := Rows.OpenSpec.upto Rows.patchAppliesSpec) own started (by kernel_rfl) Tryz.func3
    (witness_row_at (enc := enc) (C := Tryz.checked) false (laidWorld os) #[.slice none 0 0, .int .i64 0, .string ⟨#[]⟩] rfl (by kernel_rfl) (by kernel_rfl) (by kernel_rfl)
      (OpenSpec.preRow_of_cond 8 hx (by kernel_rfl) (fun k hk => by cases hk; kernel_rfl) (by kernel_rfl) (laid_met os _))) ?_
  intro W base args ds gs before hval hW _ hcond _ hL hsh _
  exact contract W base args ds gs before hsh hL hval hW (hcond _ rfl)

theorem patchApplies_said : Rows.PatchAppliesUptoSaid :=
  OpenClaim.holds_of_cond 3 Tryz.f3 rfl rfl rfl rfl rfl rfl rfl ⟨rfl, rfl, rfl, rfl, rfl⟩ rfl rfl rfl rfl rfl (by kernel_rfl) Tryz.func3 (by kernel_rfl)
    (of_decide_eq_true (by kernel_rfl)) (by unfold Func.isWrapper; first | (rw [if_pos (by decide +kernel)]; kernel_rfl) | (rw [if_neg (by decide +kernel)]; exact ⟨rfl, rfl⟩))
    (fun os started H enc _ F => by rw [OpenClaim.pre_eq_preRow]; exact lifted os started H enc F)

theorem plain (f : FuncId) (fn : Func) (hf : Tryz.pinned.checked.prog.funcNamed "mergelens/mergelenslaw14.PatchApplies" = some f) (hfn : Tryz.pinned.checked.prog.funcs[f]? = some fn) :
    false = Tryz.pinned.checked.prog.looks [] ∧ ∀ (j : Nat) t, fn.params[j]? = some t → Tryz.pinned.checked.prog.wantsStandIn t = false := by
  obtain rfl : f = 3 := Option.some.inj ((show Tryz.prog.funcNamed "mergelens/mergelenslaw14.PatchApplies" = some 3 by kernel_rfl).symm.trans hf) |>.symm
  obtain rfl : fn = Tryz.f3 := (Option.some.inj (Tryz.func3.symm.trans hfn)).symm
  refine ⟨by kernel_rfl, fun j t ht => ?_⟩
  rw [Tryz.params3] at ht
  have hm := Array.mem_of_getElem? ht
  simp only [List.mem_toArray, List.mem_cons, List.not_mem_nil, or_false] at hm
  rcases hm with rfl | rfl | rfl
  · exact (show Tryz.prog.wantsStandIn 22 = false by kernel_rfl)
  · exact (show Tryz.prog.wantsStandIn 3 = false by kernel_rfl)
  · exact (show Tryz.prog.wantsStandIn 9 = false by kernel_rfl)

theorem patchApplies_card : Rows.PatchAppliesUptoCardSaid :=
  Claim7.holds_tied_plain_at .later [] _ _ _ _ patchApplies_said (fun _ h => by cases h) (by kernel_rfl) (fun _ h => by cases h) patchAppliesUpto_row_tie rfl ⟨rfl, rfl⟩ (by kernel_rfl) rfl plain (by kernel_rfl)
#print axioms patchApplies_card
end Go.Proofs.YtbedalhmlcflfaaGreatDoor
