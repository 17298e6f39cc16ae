/-
  RecombineRows: RecombineRows: a row comes back from its marks and its text
  Conditions: none but the statement's own bound on the input.
-/
import Derived.Test.YtgejaedjnbjpoaaDoorFc
import Derived.Test.YtgejaedjnbjpoaaDoorFz
import Derived.Test.YtgejaedjnbjpoaaDoorCards
import Derived.Test.YtgejaedjnbjpoaaDoorTie
namespace Go.Proofs.YtgejaedjnbjpoaaDoor
open Go Go.AL Go.ChangeShapes Go.WideShapes Go.RowKit
set_option maxRecDepth 100000
theorem own : ownKnob Tryd.prog.godebug = none := by kernel_rfl
theorem laid_z {W : World} (hL : laidMetH Tryd.prog Rows.recombineRowsUptoRow.laid W) : laidZ Tryd.prog W := fun g hg => by
  obtain rfl : g = 3 := Option.some.inj (hg.symm.trans (show Tryd.prog.globalNamed "internal/strconv.uint64pow10" = some 3 by kernel_rfl))
  have hp : laidMet Tryd.prog Rows.recombineRowsUptoRow.laid W := hL
  have e : Rows.laid_internal_strconv_uint64pow10 (H := Unit) = Lib.tabData .u64 Lib.pow10Tab := by kernel_rfl
  exact tabIs_of_mem (t := 138) (e := 25) (n := 20) hg (by kernel_rfl) (by kernel_rfl) (by kernel_rfl) (by kernel_rfl) (by kernel_rfl) hp (by rw [← e]; simp [Rows.recombineRowsUptoRow])
theorem contract {H : Type} {enc : TypeId × Value → H} (W : World) (base : Nat) (args : Array Value) (ds gs : List (DataW H)) (before : List MemPlace) (hsh : W.ShapedOpen Tryd.prog) (hL : laidMetH Tryd.prog Rows.recombineRowsUptoRow.laid W)
    (hval : ∀ (j : Nat) t v, Tryd.f3.params[j]? = some t → args[j]? = some v → Value.okWide Tryd.prog W .any base t v)
    (hW : DataW.Whole enc Tryd.prog Tryd.f3.params.toList Rows.recombineRowsSpec.vars false W args.toList ds gs before) (hk : Rows.uptoSmall H (ds ++ gs) = true) :
    Calls Tryd.prog 3 args W fun e W' => ∃ v, e = .returned v ∧ Rows.recombineRowsSpec.post enc Tryd.prog Tryd.f3 false true false false W args v W' := by
  have hW0 := hW
  obtain ⟨p, q, hA0, hV, hbef, hfz, hnd⟩ := hW
  obtain ⟨rfl, rfl⟩ := trodVars_none hV
  have hB : Rows.uptoBulkAll ds ≤ 1048576 := by have := of_decide_eq_true hk; simpa using this
  have hA : DataW.TrodAll enc Tryd.prog W 0 (fun _ => true) true Tryd.f3.params.toList args.toList ds p := hA0
  rw [Tryd.params3] at hA hval
  obtain ⟨v0, vs0, d0, ds0, p0, q0, hargs, rfl, rfl, h0, r0⟩ := trodAll_cons hA
  obtain ⟨v1, vs1, d1, ds1, p1, q1, rfl, rfl, rfl, h1, r1⟩ := trodAll_cons r0
  obtain ⟨v2, vs2, d2, ds2, p2, q2, rfl, rfl, rfl, h2, r2⟩ := trodAll_cons r1
  obtain ⟨v3, vs3, d3, ds3, p3, q3, rfl, rfl, rfl, h3, r3⟩ := trodAll_cons r2
  obtain ⟨rfl, rfl, rfl⟩ := trodAll_nil r3
  obtain rfl : args = #[v0, v1, v2, v3] := by cases args; simp_all
  simp only [Rows.uptoBulkAll] at hB
  obtain ⟨a0, g0, m0, t0⟩ := arg_int (reads_int Tryd.underlying3 (by kernel_rfl)) Tryd.underlying3 (hval 0 _ v0 rfl rfl) h0 (by omega)
  obtain ⟨a1, g1, m1, t1⟩ := arg_int (reads_int Tryd.underlying22 (by kernel_rfl)) Tryd.underlying22 (hval 1 _ v1 rfl rfl) h1 (by omega)
  obtain ⟨a2, g2, m2, t2⟩ := arg_bool (reads_bool Tryd.underlying4 (by kernel_rfl)) Tryd.underlying4 (hval 2 _ v2 rfl rfl) h2 (by omega)
  obtain ⟨a3, g3, m3, t3⟩ := arg_string (reads_string Tryd.underlying9 (by kernel_rfl)) Tryd.underlying9 (hval 3 _ v3 rfl rfl) h3 (by omega)
  exact law_post hsh (laid_z hL) rfl rfl Tryd.underlying4 hW0 (by simpa using hbef) (pvs := [pInt a0, u32PV a1, pBool a2, pStr a3]) ⟨_, _, t0, ⟨_, _, t1, ⟨_, _, t2, ⟨_, _, t3, rfl, rfl⟩, rfl⟩, rfl⟩, rfl⟩ rfl rfl rfl (lawRRows_ok a0 a1 a2 a3 (u32_wf g1))
noncomputable def laidWorld (os : Os) : World :=
  let w0 := World.holding Tryd.prog os ⟨#[], #[], []⟩
  let put (h : Array Obj) (g : Nat) (cs : Array Value) : Array Obj := h.modify g fun
    | .cells _ t frozen => .cells cs t frozen
    | o => o
  { w0 with heap := put (put (put (put (put (w0.heap) 4 (Lib.deBruijn32tab.map fun (z : Nat) => Value.int .u8 (z : Int)).toArray) 5 (Lib.deBruijn64tab.map fun (z : Nat) => Value.int .u8 (z : Int)).toArray) 3 (Lib.pow10Tab.map fun z => Value.int .u64 z).toArray) 2 ((List.range 16).flatMap fun i => [Value.int .u8 (Lib.accLo i), Value.int .u8 (Lib.accHi i)]).toArray) 1 (Lib.firstTab.map fun z => Value.int .u8 z).toArray }
theorem laid_met (os : Os) (args : Array Value) : laidMet Tryd.prog Rows.recombineRowsUptoRow.laid ((laidWorld os).forCall (fun _ _ => 0) ⟨#[], args, []⟩).memory :=
  laidMet_of_run3 10 (by kernel_rfl) (by kernel_rfl) (by kernel_rfl)
theorem reads (os : Os) {H : Type} (enc : TypeId × Value → H) : ∃ places, DataW.whole enc Tryd.prog ((laidWorld os).forCall (fun _ _ => 0) ⟨#[], #[.int .i64 0, .int .u32 0, .bool false, .string ⟨#[]⟩], []⟩).memory Tryd.f3.params.toList Rows.recombineRowsSpec.vars false #[.int .i64 0, .int .u32 0, .bool false, .string ⟨#[]⟩].toList 8 = some ([.lit (.int .i64 0), .lit (.int .u32 0), .lit (.bool false), .lit (.string [])], [], places) :=
  ⟨[], by kernel_rfl⟩
theorem lifted (os : Os) (started : os.Started) (H : Type) (enc : TypeId × Value → H) (F : Stop.Interp) :
    ReturnsInHanded {} Tryd.checked os 3 .any ((Rows.OpenSpec.upto Rows.recombineRowsSpec).preRow enc Tryd.prog Tryd.f3 Rows.recombineRowsUptoRow.domain false Rows.recombineRowsUptoRow.laid) (((Rows.OpenSpec.upto Rows.recombineRowsSpec).at F).post enc Tryd.prog Tryd.f3 false true false false) := by
  obtain ⟨places, hx⟩ := reads os enc
  refine returnsInHanded_of_row (C := Tryd.checked) (s := Rows.OpenSpec.upto Rows.recombineRowsSpec) own started (by kernel_rfl) Tryd.func3
    (witness_row_at (enc := enc) (C := Tryd.checked) false (laidWorld os) #[.int .i64 0, .int .u32 0, .bool false, .string ⟨#[]⟩] rfl (by kernel_rfl) (by kernel_rfl) (by kernel_rfl)
      (OpenSpec.preRow_of_cond 8 hx (by kernel_rfl) (fun k hk => by cases hk; kernel_rfl) (by kernel_rfl) (laid_met os _))) ?_
  intro W base args ds gs before hval hW _ hcond _ hL hsh _
  exact contract W base args ds gs before hsh hL hval hW (hcond _ rfl)
theorem and2 {a b : Bool} (ha : a = true) (hb : b = true) : (a && b) = true := by rw [ha, hb]; rfl
theorem fact1 : (Rows.recombineRowsUptoRow.wf (OpenSpec.ofChange (Rows.OpenSpec.upto Rows.recombineRowsSpec).bare) : Bool) = true := by kernel_rfl
theorem fact2 : (laidOutB Tryd.prog : Bool) = true := by kernel_rfl
theorem fact3 : (mapsRowed Tryd.prog : Bool) = true := by kernel_rfl
theorem fact4 : (Tryd.f3.params.all (Tryd.prog.readableRec ·) : Bool) = true := by kernel_rfl
theorem fact5 : (namedTie Tryd.prog Rows.recombineRowsUptoRow.named (Rows.OpenSpec.upto Rows.recombineRowsSpec).bare.vars : Bool) = true := by kernel_rfl
theorem fact6 : ((Rows.recombineRowsUptoRow.stops == []) : Bool) = true := by kernel_rfl
theorem fact7 : ((Tryd.prog.stops == []) : Bool) = true := by kernel_rfl
theorem fact8 : ((Rows.recombineRowsUptoRow.knobs == []) : Bool) = true := by kernel_rfl
theorem fact9 : ((Tryd.prog.stopKnobs == []) : Bool) = true := by kernel_rfl
theorem fact10 : ((Rows.recombineRowsUptoRow.inPlace == Tryd.prog.inPlace 3) : Bool) = true := by kernel_rfl
theorem fact11 : ((Rows.recombineRowsUptoRow.unfollowed == Tryd.prog.unfollowed 3) : Bool) = true := by kernel_rfl
theorem fact12 : ((Rows.recombineRowsUptoRow.recurses == Tryd.prog.recurses 3) : Bool) = true := by kernel_rfl
theorem fact13 : ((Rows.recombineRowsUptoRow.named == Tryd.prog.varsNamed 3) : Bool) = true := by kernel_rfl
theorem fact14 : ((Rows.recombineRowsUptoRow.maps == (Tryd.f3.params.toList ++ (Rows.OpenSpec.upto Rows.recombineRowsSpec).bare.plain.varTypes Tryd.prog).any (Tryd.prog.mapsRec ·)) : Bool) = true := by kernel_rfl
theorem fact15 : ((Rows.recombineRowsUptoRow.ifaces == (Tryd.f3.params.toList ++ (Rows.OpenSpec.upto Rows.recombineRowsSpec).bare.plain.varTypes Tryd.prog).any (Tryd.prog.ifacesRec ·)) : Bool) = true := by kernel_rfl
theorem fact16 : ((Rows.recombineRowsUptoRow.mapsOut == Tryd.prog.mapsAmong Tryd.f3.resultTypes.toList) : Bool) = true := by kernel_rfl
theorem fact17 : ((Rows.recombineRowsUptoRow.loops == (Tryd.f3.params.toList ++ (Rows.OpenSpec.upto Rows.recombineRowsSpec).bare.plain.varTypes Tryd.prog).any (Tryd.prog.loopsFrom ·)) : Bool) = true := by kernel_rfl
theorem fact18 : ((Rows.recombineRowsUptoRow.wideKeys == (Tryd.f3.params.toList ++ (Rows.OpenSpec.upto Rows.recombineRowsSpec).bare.plain.varTypes Tryd.prog ++ Tryd.f3.resultTypes.toList).any (Tryd.prog.wideKeysFrom ·)) : Bool) = true := by kernel_rfl
theorem fact19 : ((Rows.OpenSpec.upto Rows.recombineRowsSpec).bare.vars.all (Tryd.prog.varReadable ·) : Bool) = true := by kernel_rfl
theorem fact20 : (Tryd.f3.resultTypes.all (fun t => Tryd.prog.readableRec t && decide (t < Tryd.prog.types.size)) : Bool) = true := by kernel_rfl
theorem fact21 : ((Rows.recombineRowsUptoRow.ifacesOut == Tryd.f3.resultTypes.toList.any (Tryd.prog.ifacesRec ·)) : Bool) = true := by kernel_rfl
theorem fact22 : ((Rows.recombineRowsUptoRow.loopsOut == Tryd.f3.resultTypes.toList.any (Tryd.prog.loopsFrom ·)) : Bool) = true := by kernel_rfl
theorem fact23 : ((Rows.recombineRowsUptoRow.plainKeys == Tryd.prog.plainKeys) : Bool) = true := by kernel_rfl
theorem fact24 : (Rows.recombineRowsUptoRow.shortTexts.isNone : Bool) = true := by kernel_rfl
theorem fact25 : (Tryd.prog.stopsHeard : Bool) = true := by kernel_rfl
theorem fact26 : (Tryd.prog.mayEnter : Bool) = true := by kernel_rfl
theorem fact27 : ((Rows.recombineRowsUptoRow.lifted == Tryd.prog.liftsFinal) : Bool) = true := by kernel_rfl
theorem fact28 : ((Tryd.prog.make == some Rows.recombineRowsUptoRow.make) : Bool) = true := by kernel_rfl
theorem fact29 : ((Rows.recombineRowsUptoRow.kinds == (if Rows.recombineRowsUptoRow.domain.isEmpty then [] else Tryd.f3.params.toList.map fun t => match Tryd.prog.underlying t with | some (.int k) => some k | _ => none)) : Bool) = true := by kernel_rfl
theorem fact30 : ((Rows.recombineRowsUptoRow.pinned == Rows.recombineRowsUptoRow.pinnedBy) : Bool) = true := by kernel_rfl
theorem fact31 : ((Rows.recombineRowsUptoRow.veiled == (Tryd.f3.params.toList ++ (Rows.OpenSpec.upto Rows.recombineRowsSpec).bare.plain.varTypes Tryd.prog ++ Tryd.f3.resultTypes.toList).any (Tryd.prog.veiledRec ·)) : Bool) = true := by kernel_rfl
theorem fact32 : (Rows.recombineRowsUptoRow.veiledFits Tryd.prog Tryd.f3.params.toList (Tryd.f3.params.toList ++ (Rows.OpenSpec.upto Rows.recombineRowsSpec).bare.plain.varTypes Tryd.prog ++ Tryd.f3.resultTypes.toList) : Bool) = true := by kernel_rfl
theorem closed : joinedFacts Tryd.prog 3 Tryd.f3 (Rows.OpenSpec.upto Rows.recombineRowsSpec).bare Rows.recombineRowsUptoRow = true := by
  unfold joinedFacts
  exact and2 (and2 (and2 (and2 (and2 (and2 (and2 (and2 (and2 (and2 (and2 (and2 (and2 (and2 (and2 (and2 (and2 (and2 (and2 (and2 (and2 (and2 (and2 (and2 (and2 (and2 (and2 (and2 (and2 (and2 (and2 (fact1) fact2) fact3) fact4) fact5) fact6) fact7) fact8) fact9) fact10) fact11) fact12) fact13) fact14) fact15) fact16) fact17) fact18) fact19) fact20) fact21) fact22) fact23) fact24) fact25) fact26) fact27) fact28) fact29) fact30) fact31) fact32
theorem recombineRows_said : Rows.RecombineRowsUptoSaid :=
  OpenClaim.holds_of_cond 3 Tryd.f3 rfl rfl rfl rfl rfl rfl rfl ⟨rfl, rfl, rfl, rfl, rfl⟩ rfl rfl rfl rfl rfl (by kernel_rfl) Tryd.func3 closed
    (of_decide_eq_true (by kernel_rfl)) (by unfold Func.isWrapper; first | (rw [if_pos (by decide +kernel)]; kernel_rfl) | (rw [if_neg (by decide +kernel)]; exact ⟨rfl, rfl⟩))
    (fun os started H enc _ F => by rw [OpenClaim.pre_eq_preRow]; exact lifted os started H enc F)
theorem plain (f : FuncId) (fn : Func) (hf : Tryd.pinned.checked.prog.funcNamed "mergelens/mergelenslaw19.RecombineRows" = some f) (hfn : Tryd.pinned.checked.prog.funcs[f]? = some fn) :
    false = Tryd.pinned.checked.prog.looks [] ∧ ∀ (j : Nat) t, fn.params[j]? = some t → Tryd.pinned.checked.prog.wantsStandIn t = false := by
  obtain rfl : f = 3 := Option.some.inj ((show Tryd.prog.funcNamed "mergelens/mergelenslaw19.RecombineRows" = some 3 by kernel_rfl).symm.trans hf) |>.symm
  obtain rfl : fn = Tryd.f3 := (Option.some.inj (Tryd.func3.symm.trans hfn)).symm
  refine ⟨by kernel_rfl, fun j t ht => ?_⟩
  rw [Tryd.params3] at ht
  have hm := Array.mem_of_getElem? ht
  simp only [List.mem_toArray, List.mem_cons, List.not_mem_nil, or_false] at hm
  rcases hm with rfl | rfl | rfl | rfl
  · exact (show Tryd.prog.wantsStandIn 3 = false by kernel_rfl)
  · exact (show Tryd.prog.wantsStandIn 22 = false by kernel_rfl)
  · exact (show Tryd.prog.wantsStandIn 4 = false by kernel_rfl)
  · exact (show Tryd.prog.wantsStandIn 9 = false by kernel_rfl)
theorem recombineRows_card : Rows.RecombineRowsUptoCardSaid :=
  Claim7.holds_tied_plain_at .later [] _ _ _ _ recombineRows_said (fun _ h => by cases h) (by kernel_rfl) (fun _ h => by cases h) recombineRowsUpto_row_tie rfl ⟨rfl, rfl⟩ (by kernel_rfl) rfl plain (by kernel_rfl)
#print axioms recombineRows_card
end Go.Proofs.YtgejaedjnbjpoaaDoor
