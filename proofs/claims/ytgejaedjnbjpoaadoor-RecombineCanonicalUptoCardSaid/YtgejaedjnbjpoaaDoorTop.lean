/-
  RecombineCanonical: RecombineCanonical: other ways to write the same combined diff are refused
  Conditions: none but the statement's own bound on the input.
-/
import Derived.Test.YtgejaedjnbjpoaaDoorFc
import Derived.Test.YtgejaedjnbjpoaaDoorFz
import Derived.Test.YtgejaedjnbjpoaaDoorCards
import Derived.Test.YtgejaedjnbjpoaaDoorTie
namespace Go.Proofs.YtgejaedjnbjpoaaDoor
open Go Go.AL Go.ChangeShapes Go.WideShapes Go.RowKit
set_option maxRecDepth 100000
theorem own : ownKnob Tryd.prog.godebug = none := by kernel_rfl
theorem reads_ints : Reads Tryd.prog 33 (List Int) 1 intsC (fun l => ∀ a ∈ l, (Lit.int .i64 a).wf = true) (fun l => 1 + (l.map fun _ => 1).sum) :=
  reads_slice (reads_int Tryd.underlying3 (by kernel_rfl)) (by omega) Tryd.underlying33 (by kernel_rfl)
theorem laid_z {W : World} (hL : laidMetH Tryd.prog Rows.recombineCanonicalUptoRow.laid W) : laidZ Tryd.prog W := fun g hg => by
  obtain rfl : g = 3 := Option.some.inj (hg.symm.trans (show Tryd.prog.globalNamed "internal/strconv.uint64pow10" = some 3 by kernel_rfl))
  have hp : laidMet Tryd.prog Rows.recombineCanonicalUptoRow.laid W := hL
  have e : Rows.laid_internal_strconv_uint64pow10 (H := Unit) = Lib.tabData .u64 Lib.pow10Tab := by kernel_rfl
  exact tabIs_of_mem (t := 138) (e := 25) (n := 20) hg (by kernel_rfl) (by kernel_rfl) (by kernel_rfl) (by kernel_rfl) (by kernel_rfl) hp (by rw [← e]; simp [Rows.recombineCanonicalUptoRow])
theorem contract {H : Type} {enc : TypeId × Value → H} (W : World) (base : Nat) (args : Array Value) (ds gs : List (DataW H)) (before : List MemPlace) (hsh : W.ShapedOpen Tryd.prog) (hL : laidMetH Tryd.prog Rows.recombineCanonicalUptoRow.laid W)
    (hval : ∀ (j : Nat) t v, Tryd.f4.params[j]? = some t → args[j]? = some v → Value.okWide Tryd.prog W .any base t v)
    (hW : DataW.Whole enc Tryd.prog Tryd.f4.params.toList Rows.recombineCanonicalSpec.vars false W args.toList ds gs before) (hk : Rows.uptoSmall H (ds ++ gs) = true) :
    Calls Tryd.prog 4 args W fun e W' => ∃ v, e = .returned v ∧ Rows.recombineCanonicalSpec.post enc Tryd.prog Tryd.f4 false true false false W args v W' := by
  have hW0 := hW
  obtain ⟨p, q, hA0, hV, hbef, hfz, hnd⟩ := hW
  obtain ⟨rfl, rfl⟩ := trodVars_none hV
  have hB : Rows.uptoBulkAll ds ≤ 1048576 := by have := of_decide_eq_true hk; simpa using this
  have hA : DataW.TrodAll enc Tryd.prog W 0 (fun _ => true) true Tryd.f4.params.toList args.toList ds p := hA0
  rw [Tryd.params4] at hA hval
  obtain ⟨v0, vs0, d0, ds0, p0, q0, hargs, rfl, rfl, h0, r0⟩ := trodAll_cons hA
  obtain ⟨rfl, rfl, rfl⟩ := trodAll_nil r0
  obtain rfl : args = #[v0] := by cases args; simp_all
  simp only [Rows.uptoBulkAll] at hB
  obtain ⟨a0, g0, m0, t0⟩ := arg_slice reads_ints Tryd.underlying33 (hval 0 _ v0 rfl rfl) h0 (by omega)
  exact law_post hsh (laid_z hL) rfl rfl Tryd.underlying4 hW0 (by simpa using hbef) (pvs := [pInts a0]) ⟨_, _, t0, rfl, rfl⟩ rfl rfl rfl (lawRCanonical_ok a0)
noncomputable def laidWorld (os : Os) : World :=
  let w0 := World.holding Tryd.prog os ⟨#[], #[], []⟩
  let put (h : Array Obj) (g : Nat) (cs : Array Value) : Array Obj := h.modify g fun
    | .cells _ t frozen => .cells cs t frozen
    | o => o
  { w0 with heap := put (put (put (put (put (w0.heap) 4 (Lib.deBruijn32tab.map fun (z : Nat) => Value.int .u8 (z : Int)).toArray) 5 (Lib.deBruijn64tab.map fun (z : Nat) => Value.int .u8 (z : Int)).toArray) 3 (Lib.pow10Tab.map fun z => Value.int .u64 z).toArray) 2 ((List.range 16).flatMap fun i => [Value.int .u8 (Lib.accLo i), Value.int .u8 (Lib.accHi i)]).toArray) 1 (Lib.firstTab.map fun z => Value.int .u8 z).toArray }
theorem laid_met (os : Os) (args : Array Value) : laidMet Tryd.prog Rows.recombineCanonicalUptoRow.laid ((laidWorld os).forCall (fun _ _ => 0) ⟨#[], args, []⟩).memory :=
  laidMet_of_run3 10 (by kernel_rfl) (by kernel_rfl) (by kernel_rfl)
theorem reads (os : Os) {H : Type} (enc : TypeId × Value → H) : ∃ places, DataW.whole enc Tryd.prog ((laidWorld os).forCall (fun _ _ => 0) ⟨#[], #[.slice none 0 0], []⟩).memory Tryd.f4.params.toList Rows.recombineCanonicalSpec.vars false #[.slice none 0 0].toList 8 = some ([.nil], [], places) :=
  ⟨[], by kernel_rfl⟩
theorem lifted (os : Os) (started : os.Started) (H : Type) (enc : TypeId × Value → H) (F : Stop.Interp) :
    ReturnsInHanded {} Tryd.checked os 4 .any ((Rows.OpenSpec.upto Rows.recombineCanonicalSpec).preRow enc Tryd.prog Tryd.f4 Rows.recombineCanonicalUptoRow.domain false Rows.recombineCanonicalUptoRow.laid) (((Rows.OpenSpec.upto Rows.recombineCanonicalSpec).at F).post enc Tryd.prog Tryd.f4 false true false false) := by
  obtain ⟨places, hx⟩ := reads os enc
  refine returnsInHanded_of_row (C := Tryd.checked) (s := Rows.OpenSpec.upto Rows.recombineCanonicalSpec) own started (by kernel_rfl) Tryd.func4
    (witness_row_at (enc := enc) (C := Tryd.checked) false (laidWorld os) #[.slice none 0 0] rfl (by kernel_rfl) (by kernel_rfl) (by kernel_rfl)
      (OpenSpec.preRow_of_cond 8 hx (by kernel_rfl) (fun k hk => by cases hk; kernel_rfl) (by kernel_rfl) (laid_met os _))) ?_
  intro W base args ds gs before hval hW _ hcond _ hL hsh _
  exact contract W base args ds gs before hsh hL hval hW (hcond _ rfl)
theorem and2 {a b : Bool} (ha : a = true) (hb : b = true) : (a && b) = true := by rw [ha, hb]; rfl
theorem fact1 : (Rows.recombineCanonicalUptoRow.wf (OpenSpec.ofChange (Rows.OpenSpec.upto Rows.recombineCanonicalSpec).bare) : Bool) = true := by kernel_rfl
theorem fact2 : (laidOutB Tryd.prog : Bool) = true := by kernel_rfl
theorem fact3 : (mapsRowed Tryd.prog : Bool) = true := by kernel_rfl
theorem fact4 : (Tryd.f4.params.all (Tryd.prog.readableRec ·) : Bool) = true := by kernel_rfl
theorem fact5 : (namedTie Tryd.prog Rows.recombineCanonicalUptoRow.named (Rows.OpenSpec.upto Rows.recombineCanonicalSpec).bare.vars : Bool) = true := by kernel_rfl
theorem fact6 : ((Rows.recombineCanonicalUptoRow.stops == []) : Bool) = true := by kernel_rfl
theorem fact7 : ((Tryd.prog.stops == []) : Bool) = true := by kernel_rfl
theorem fact8 : ((Rows.recombineCanonicalUptoRow.knobs == []) : Bool) = true := by kernel_rfl
theorem fact9 : ((Tryd.prog.stopKnobs == []) : Bool) = true := by kernel_rfl
theorem fact10 : ((Rows.recombineCanonicalUptoRow.inPlace == Tryd.prog.inPlace 4) : Bool) = true := by kernel_rfl
theorem fact11 : ((Rows.recombineCanonicalUptoRow.unfollowed == Tryd.prog.unfollowed 4) : Bool) = true := by kernel_rfl
theorem fact12 : ((Rows.recombineCanonicalUptoRow.recurses == Tryd.prog.recurses 4) : Bool) = true := by kernel_rfl
theorem fact13 : ((Rows.recombineCanonicalUptoRow.named == Tryd.prog.varsNamed 4) : Bool) = true := by kernel_rfl
theorem fact14 : ((Rows.recombineCanonicalUptoRow.maps == (Tryd.f4.params.toList ++ (Rows.OpenSpec.upto Rows.recombineCanonicalSpec).bare.plain.varTypes Tryd.prog).any (Tryd.prog.mapsRec ·)) : Bool) = true := by kernel_rfl
theorem fact15 : ((Rows.recombineCanonicalUptoRow.ifaces == (Tryd.f4.params.toList ++ (Rows.OpenSpec.upto Rows.recombineCanonicalSpec).bare.plain.varTypes Tryd.prog).any (Tryd.prog.ifacesRec ·)) : Bool) = true := by kernel_rfl
theorem fact16 : ((Rows.recombineCanonicalUptoRow.mapsOut == Tryd.prog.mapsAmong Tryd.f4.resultTypes.toList) : Bool) = true := by kernel_rfl
theorem fact17 : ((Rows.recombineCanonicalUptoRow.loops == (Tryd.f4.params.toList ++ (Rows.OpenSpec.upto Rows.recombineCanonicalSpec).bare.plain.varTypes Tryd.prog).any (Tryd.prog.loopsFrom ·)) : Bool) = true := by kernel_rfl
theorem fact18 : ((Rows.recombineCanonicalUptoRow.wideKeys == (Tryd.f4.params.toList ++ (Rows.OpenSpec.upto Rows.recombineCanonicalSpec).bare.plain.varTypes Tryd.prog ++ Tryd.f4.resultTypes.toList).any (Tryd.prog.wideKeysFrom ·)) : Bool) = true := by kernel_rfl
theorem fact19 : ((Rows.OpenSpec.upto Rows.recombineCanonicalSpec).bare.vars.all (Tryd.prog.varReadable ·) : Bool) = true := by kernel_rfl
theorem fact20 : (Tryd.f4.resultTypes.all (fun t => Tryd.prog.readableRec t && decide (t < Tryd.prog.types.size)) : Bool) = true := by kernel_rfl
theorem fact21 : ((Rows.recombineCanonicalUptoRow.ifacesOut == Tryd.f4.resultTypes.toList.any (Tryd.prog.ifacesRec ·)) : Bool) = true := by kernel_rfl
theorem fact22 : ((Rows.recombineCanonicalUptoRow.loopsOut == Tryd.f4.resultTypes.toList.any (Tryd.prog.loopsFrom ·)) : Bool) = true := by kernel_rfl
theorem fact23 : ((Rows.recombineCanonicalUptoRow.plainKeys == Tryd.prog.plainKeys) : Bool) = true := by kernel_rfl
theorem fact24 : (Rows.recombineCanonicalUptoRow.shortTexts.isNone : Bool) = true := by kernel_rfl
theorem fact25 : (Tryd.prog.stopsHeard : Bool) = true := by kernel_rfl
theorem fact26 : (Tryd.prog.mayEnter : Bool) = true := by kernel_rfl
theorem fact27 : ((Rows.recombineCanonicalUptoRow.lifted == Tryd.prog.liftsFinal) : Bool) = true := by kernel_rfl
theorem fact28 : ((Tryd.prog.make == some Rows.recombineCanonicalUptoRow.make) : Bool) = true := by kernel_rfl
theorem fact29 : ((Rows.recombineCanonicalUptoRow.kinds == (if Rows.recombineCanonicalUptoRow.domain.isEmpty then [] else Tryd.f4.params.toList.map fun t => match Tryd.prog.underlying t with | some (.int k) => some k | _ => none)) : Bool) = true := by kernel_rfl
theorem fact30 : ((Rows.recombineCanonicalUptoRow.pinned == Rows.recombineCanonicalUptoRow.pinnedBy) : Bool) = true := by kernel_rfl
theorem fact31 : ((Rows.recombineCanonicalUptoRow.veiled == (Tryd.f4.params.toList ++ (Rows.OpenSpec.upto Rows.recombineCanonicalSpec).bare.plain.varTypes Tryd.prog ++ Tryd.f4.resultTypes.toList).any (Tryd.prog.veiledRec ·)) : Bool) = true := by kernel_rfl
theorem fact32 : (Rows.recombineCanonicalUptoRow.veiledFits Tryd.prog Tryd.f4.params.toList (Tryd.f4.params.toList ++ (Rows.OpenSpec.upto Rows.recombineCanonicalSpec).bare.plain.varTypes Tryd.prog ++ Tryd.f4.resultTypes.toList) : Bool) = true := by kernel_rfl
theorem closed : joinedFacts Tryd.prog 4 Tryd.f4 (Rows.OpenSpec.upto Rows.recombineCanonicalSpec).bare Rows.recombineCanonicalUptoRow = true := by
  unfold joinedFacts
  exact and2 (and2 (and2 (and2 (and2 (and2 (and2 (and2 (and2 (and2 (and2 (and2 (and2 (and2 (and2 (and2 (and2 (and2 (and2 (and2 (and2 (and2 (and2 (and2 (and2 (and2 (and2 (and2 (and2 (and2 (and2 (fact1) fact2) fact3) fact4) fact5) fact6) fact7) fact8) fact9) fact10) fact11) fact12) fact13) fact14) fact15) fact16) fact17) fact18) fact19) fact20) fact21) fact22) fact23) fact24) fact25) fact26) fact27) fact28) fact29) fact30) fact31) fact32
theorem recombineCanonical_said : Rows.RecombineCanonicalUptoSaid :=
  OpenClaim.holds_of_cond 4 Tryd.f4 rfl rfl rfl rfl rfl rfl rfl ⟨rfl, rfl, rfl, rfl, rfl⟩ rfl rfl rfl rfl rfl (by kernel_rfl) Tryd.func4 closed
    (of_decide_eq_true (by kernel_rfl)) (by unfold Func.isWrapper; first | (rw [if_pos (by decide +kernel)]; kernel_rfl) | (rw [if_neg (by decide +kernel)]; exact ⟨rfl, rfl⟩))
    (fun os started H enc _ F => by rw [OpenClaim.pre_eq_preRow]; exact lifted os started H enc F)
theorem plain (f : FuncId) (fn : Func) (hf : Tryd.pinned.checked.prog.funcNamed "mergelens/mergelenslaw19.RecombineCanonical" = some f) (hfn : Tryd.pinned.checked.prog.funcs[f]? = some fn) :
    false = Tryd.pinned.checked.prog.looks [] ∧ ∀ (j : Nat) t, fn.params[j]? = some t → Tryd.pinned.checked.prog.wantsStandIn t = false := by
  obtain rfl : f = 4 := Option.some.inj ((show Tryd.prog.funcNamed "mergelens/mergelenslaw19.RecombineCanonical" = some 4 by kernel_rfl).symm.trans hf) |>.symm
  obtain rfl : fn = Tryd.f4 := (Option.some.inj (Tryd.func4.symm.trans hfn)).symm
  refine ⟨by kernel_rfl, fun j t ht => ?_⟩
  rw [Tryd.params4] at ht
  have hm := Array.mem_of_getElem? ht
  simp only [List.mem_toArray, List.mem_cons, List.not_mem_nil, or_false] at hm
  rcases hm with rfl
  · exact (show Tryd.prog.wantsStandIn 33 = false by kernel_rfl)
theorem recombineCanonical_card : Rows.RecombineCanonicalUptoCardSaid :=
  Claim7.holds_tied_plain_at .later [] _ _ _ _ recombineCanonical_said (fun _ h => by cases h) (by kernel_rfl) (fun _ h => by cases h) recombineCanonicalUpto_row_tie rfl ⟨rfl, rfl⟩ (by kernel_rfl) rfl plain (by kernel_rfl)
#print axioms recombineCanonical_card
end Go.Proofs.YtgejaedjnbjpoaaDoor
