/-
  StrictAny: StrictAny: Parse and Lines answer as the references do, for any text
  Conditions: none but the statement's own bound on the input.
-/
import Derived.Test.YtjjidificdmnmaaGreatDoorFf
import Derived.Test.YtjjidificdmnmaaGreatDoorFz
import Derived.Test.YtjjidificdmnmaaGreatDoorCards
import Derived.Test.YtjjidificdmnmaaGreatDoorTie
namespace Go.Proofs.YtjjidificdmnmaaGreatDoor
open Go Go.AL Go.ChangeShapes Go.WideShapes Go.RowKit
set_option maxRecDepth 100000
theorem own : ownKnob Tryz.prog.godebug = none := by kernel_rfl
theorem laid_z {W : World} (hL : laidMetH Tryz.prog Rows.strictAnyUptoRow.laid W) : laidZ Tryz.prog W := fun g hg => by
  obtain rfl : g = 3 := Option.some.inj (hg.symm.trans (show Tryz.prog.globalNamed "internal/strconv.uint64pow10" = some 3 by kernel_rfl))
  have hp : laidMet Tryz.prog Rows.strictAnyUptoRow.laid W := hL
  have e : Rows.laid_internal_strconv_uint64pow10 (H := Unit) = Lib.tabData .u64 Lib.pow10Tab := by kernel_rfl
  exact tabIs_of_mem (t := 236) (e := 88) (n := 20) hg (by kernel_rfl) (by kernel_rfl) (by kernel_rfl) (by kernel_rfl) (by kernel_rfl) hp (by rw [← e]; simp [Rows.strictAnyUptoRow])
theorem contract {H : Type} {enc : TypeId × Value → H} (W : World) (base : Nat) (args : Array Value) (ds gs : List (DataW H)) (before : List MemPlace) (hsh : W.ShapedOpen Tryz.prog) (hL : laidMetH Tryz.prog Rows.strictAnyUptoRow.laid W)
    (hval : ∀ (j : Nat) t v, Tryz.f7.params[j]? = some t → args[j]? = some v → Value.okWide Tryz.prog W .any base t v)
    (hW : DataW.Whole enc Tryz.prog Tryz.f7.params.toList Rows.strictAnySpec.vars false W args.toList ds gs before) (hk : Rows.uptoSmall H (ds ++ gs) = true) :
    Calls Tryz.prog 7 args W fun e W' => ∃ v, e = .returned v ∧ Rows.strictAnySpec.post enc Tryz.prog Tryz.f7 false true false false W args v W' := by
  have hW0 := hW
  obtain ⟨p, q, hA0, hV, hbef, hfz, hnd⟩ := hW
  obtain ⟨rfl, rfl⟩ := trodVars_none hV
  have hB : Rows.uptoBulkAll ds ≤ 1048576 := by have := of_decide_eq_true hk; simpa using this
  have hA : DataW.TrodAll enc Tryz.prog W 0 (fun _ => true) true Tryz.f7.params.toList args.toList ds p := hA0
  rw [Tryz.params7] at hA hval
  obtain ⟨v0, vs0, d0, ds0, p0, q0, hargs, rfl, rfl, h0, r0⟩ := trodAll_cons hA
  obtain ⟨rfl, rfl, rfl⟩ := trodAll_nil r0
  obtain rfl : args = #[v0] := by cases args; simp_all
  simp only [Rows.uptoBulkAll] at hB
  obtain ⟨a0, g0, m0, t0⟩ := arg_string (reads_string Tryz.underlying9 (by kernel_rfl)) Tryz.underlying9 (hval 0 _ v0 rfl rfl) h0 (by omega)
  exact law_post hsh (laid_z hL) rfl rfl Tryz.underlying4 hW0 (by simpa using hbef) (pvs := [pStr a0]) ⟨_, _, t0, rfl, rfl⟩ rfl rfl rfl (lawStrictAny_ok a0)
noncomputable def laidWorld (os : Os) : World :=
  let w0 := World.holding Tryz.prog os ⟨#[], #[], []⟩
  let put (h : Array Obj) (g : Nat) (cs : Array Value) : Array Obj := h.modify g fun
    | .cells _ t frozen => .cells cs t frozen
    | o => o
  { w0 with heap := put (put (put (put (put (w0.heap) 4 (Lib.deBruijn32tab.map fun (z : Nat) => Value.int .u8 (z : Int)).toArray) 5 (Lib.deBruijn64tab.map fun (z : Nat) => Value.int .u8 (z : Int)).toArray) 3 (Lib.pow10Tab.map fun z => Value.int .u64 z).toArray) 2 ((List.range 16).flatMap fun i => [Value.int .u8 (Lib.accLo i), Value.int .u8 (Lib.accHi i)]).toArray) 1 (Lib.firstTab.map fun z => Value.int .u8 z).toArray }
theorem laid_met (os : Os) (args : Array Value) : laidMet Tryz.prog Rows.strictAnyUptoRow.laid ((laidWorld os).forCall (fun _ _ => 0) ⟨#[], args, []⟩).memory :=
  laidMet_of_run3 10 (by kernel_rfl) (by kernel_rfl) (by kernel_rfl)
theorem reads (os : Os) {H : Type} (enc : TypeId × Value → H) : ∃ places, DataW.whole enc Tryz.prog ((laidWorld os).forCall (fun _ _ => 0) ⟨#[], #[.string ⟨#[]⟩], []⟩).memory Tryz.f7.params.toList Rows.strictAnySpec.vars false #[.string ⟨#[]⟩].toList 8 = some ([.lit (.string [])], [], places) :=
  ⟨[], by kernel_rfl⟩
theorem lifted (os : Os) (started : os.Started) (H : Type) (enc : TypeId × Value → H) (F : Stop.Interp) :
    ReturnsInHanded {} Tryz.checked os 7 .any ((Rows.OpenSpec.upto Rows.strictAnySpec).preRow enc Tryz.prog Tryz.f7 Rows.strictAnyUptoRow.domain false Rows.strictAnyUptoRow.laid) (((Rows.OpenSpec.upto Rows.strictAnySpec).at F).post enc Tryz.prog Tryz.f7 false true false false) := by
  obtain ⟨places, hx⟩ := reads os enc
  refine returnsInHanded_of_row (C := Tryz.checked) (s := Rows.OpenSpec.upto Rows.strictAnySpec) own started (by kernel_rfl) Tryz.func7
    (witness_row_at (enc := enc) (C := Tryz.checked) false (laidWorld os) #[.string ⟨#[]⟩] rfl (by kernel_rfl) (by kernel_rfl) (by kernel_rfl)
      (OpenSpec.preRow_of_cond 8 hx (by kernel_rfl) (fun k hk => by cases hk; kernel_rfl) (by kernel_rfl) (laid_met os _))) ?_
  intro W base args ds gs before hval hW _ hcond _ hL hsh _
  exact contract W base args ds gs before hsh hL hval hW (hcond _ rfl)
theorem and2 {a b : Bool} (ha : a = true) (hb : b = true) : (a && b) = true := by rw [ha, hb]; rfl
theorem fact1 : (Rows.strictAnyUptoRow.wf (OpenSpec.ofChange (Rows.OpenSpec.upto Rows.strictAnySpec).bare) : Bool) = true := by kernel_rfl
theorem fact2 : (laidOutB Tryz.prog : Bool) = true := by kernel_rfl
theorem fact3 : (mapsRowed Tryz.prog : Bool) = true := by kernel_rfl
theorem fact4 : (Tryz.f7.params.all (Tryz.prog.readableRec ·) : Bool) = true := by kernel_rfl
theorem fact5 : (namedTie Tryz.prog Rows.strictAnyUptoRow.named (Rows.OpenSpec.upto Rows.strictAnySpec).bare.vars : Bool) = true := by kernel_rfl
theorem fact6 : ((Rows.strictAnyUptoRow.stops == []) : Bool) = true := by kernel_rfl
theorem fact7 : ((Tryz.prog.stops == []) : Bool) = true := by kernel_rfl
theorem fact8 : ((Rows.strictAnyUptoRow.knobs == []) : Bool) = true := by kernel_rfl
theorem fact9 : ((Tryz.prog.stopKnobs == []) : Bool) = true := by kernel_rfl
theorem fact10 : ((Rows.strictAnyUptoRow.inPlace == Tryz.prog.inPlace 7) : Bool) = true := by kernel_rfl
theorem fact11 : ((Rows.strictAnyUptoRow.unfollowed == Tryz.prog.unfollowed 7) : Bool) = true := by kernel_rfl
theorem fact12 : ((Rows.strictAnyUptoRow.recurses == Tryz.prog.recurses 7) : Bool) = true := by kernel_rfl
theorem fact13 : ((Rows.strictAnyUptoRow.named == Tryz.prog.varsNamed 7) : Bool) = true := by kernel_rfl
theorem fact14 : ((Rows.strictAnyUptoRow.maps == (Tryz.f7.params.toList ++ (Rows.OpenSpec.upto Rows.strictAnySpec).bare.plain.varTypes Tryz.prog).any (Tryz.prog.mapsRec ·)) : Bool) = true := by kernel_rfl
theorem fact15 : ((Rows.strictAnyUptoRow.ifaces == (Tryz.f7.params.toList ++ (Rows.OpenSpec.upto Rows.strictAnySpec).bare.plain.varTypes Tryz.prog).any (Tryz.prog.ifacesRec ·)) : Bool) = true := by kernel_rfl
theorem fact16 : ((Rows.strictAnyUptoRow.mapsOut == Tryz.prog.mapsAmong Tryz.f7.resultTypes.toList) : Bool) = true := by kernel_rfl
theorem fact17 : ((Rows.strictAnyUptoRow.loops == (Tryz.f7.params.toList ++ (Rows.OpenSpec.upto Rows.strictAnySpec).bare.plain.varTypes Tryz.prog).any (Tryz.prog.loopsFrom ·)) : Bool) = true := by kernel_rfl
theorem fact18 : ((Rows.strictAnyUptoRow.wideKeys == (Tryz.f7.params.toList ++ (Rows.OpenSpec.upto Rows.strictAnySpec).bare.plain.varTypes Tryz.prog ++ Tryz.f7.resultTypes.toList).any (Tryz.prog.wideKeysFrom ·)) : Bool) = true := by kernel_rfl
theorem fact19 : ((Rows.OpenSpec.upto Rows.strictAnySpec).bare.vars.all (Tryz.prog.varReadable ·) : Bool) = true := by kernel_rfl
theorem fact20 : (Tryz.f7.resultTypes.all (fun t => Tryz.prog.readableRec t && decide (t < Tryz.prog.types.size)) : Bool) = true := by kernel_rfl
theorem fact21 : ((Rows.strictAnyUptoRow.ifacesOut == Tryz.f7.resultTypes.toList.any (Tryz.prog.ifacesRec ·)) : Bool) = true := by kernel_rfl
theorem fact22 : ((Rows.strictAnyUptoRow.loopsOut == Tryz.f7.resultTypes.toList.any (Tryz.prog.loopsFrom ·)) : Bool) = true := by kernel_rfl
theorem fact23 : ((Rows.strictAnyUptoRow.plainKeys == Tryz.prog.plainKeys) : Bool) = true := by kernel_rfl
theorem fact24 : (Rows.strictAnyUptoRow.shortTexts.isNone : Bool) = true := by kernel_rfl
theorem fact25 : (Tryz.prog.stopsHeard : Bool) = true := by kernel_rfl
theorem fact26 : (Tryz.prog.mayEnter : Bool) = true := by kernel_rfl
theorem fact27 : ((Rows.strictAnyUptoRow.lifted == Tryz.prog.liftsFinal) : Bool) = true := by kernel_rfl
theorem fact28 : ((Tryz.prog.make == some Rows.strictAnyUptoRow.make) : Bool) = true := by kernel_rfl
theorem fact29 : ((Rows.strictAnyUptoRow.kinds == (if Rows.strictAnyUptoRow.domain.isEmpty then [] else Tryz.f7.params.toList.map fun t => match Tryz.prog.underlying t with | some (.int k) => some k | _ => none)) : Bool) = true := by kernel_rfl
theorem fact30 : ((Rows.strictAnyUptoRow.pinned == Rows.strictAnyUptoRow.pinnedBy) : Bool) = true := by kernel_rfl
theorem fact31 : ((Rows.strictAnyUptoRow.veiled == (Tryz.f7.params.toList ++ (Rows.OpenSpec.upto Rows.strictAnySpec).bare.plain.varTypes Tryz.prog ++ Tryz.f7.resultTypes.toList).any (Tryz.prog.veiledRec ·)) : Bool) = true := by kernel_rfl
theorem fact32 : (Rows.strictAnyUptoRow.veiledFits Tryz.prog Tryz.f7.params.toList (Tryz.f7.params.toList ++ (Rows.OpenSpec.upto Rows.strictAnySpec).bare.plain.varTypes Tryz.prog ++ Tryz.f7.resultTypes.toList) : Bool) = true := by kernel_rfl
theorem closed : joinedFacts Tryz.prog 7 Tryz.f7 (Rows.OpenSpec.upto Rows.strictAnySpec).bare Rows.strictAnyUptoRow = true := by
  unfold joinedFacts
  exact and2 (and2 (and2 (and2 (and2 (and2 (and2 (and2 (and2 (and2 (and2 (and2 (and2 (and2 (and2 (and2 (and2 (and2 (and2 (and2 (and2 (and2 (and2 (and2 (and2 (and2 (and2 (and2 (and2 (and2 (and2 (fact1) fact2) fact3) fact4) fact5) fact6) fact7) fact8) fact9) fact10) fact11) fact12) fact13) fact14) fact15) fact16) fact17) fact18) fact19) fact20) fact21) fact22) fact23) fact24) fact25) fact26) fact27) fact28) fact29) fact30) fact31) fact32
theorem strictAny_said : Rows.StrictAnyUptoSaid :=
  OpenClaim.holds_of_cond 7 Tryz.f7 rfl rfl rfl rfl rfl rfl rfl ⟨rfl, rfl, rfl, rfl, rfl⟩ rfl rfl rfl rfl rfl (by kernel_rfl) Tryz.func7 closed
    (of_decide_eq_true (by kernel_rfl)) (by unfold Func.isWrapper; first | (rw [if_pos (by decide +kernel)]; kernel_rfl) | (rw [if_neg (by decide +kernel)]; exact ⟨rfl, rfl⟩))
    (fun os started H enc _ F => by rw [OpenClaim.pre_eq_preRow]; exact lifted os started H enc F)
theorem plain (f : FuncId) (fn : Func) (hf : Tryz.pinned.checked.prog.funcNamed "mergelens/mergelenslaw13.StrictAny" = some f) (hfn : Tryz.pinned.checked.prog.funcs[f]? = some fn) :
    false = Tryz.pinned.checked.prog.looks [] ∧ ∀ (j : Nat) t, fn.params[j]? = some t → Tryz.pinned.checked.prog.wantsStandIn t = false := by
  obtain rfl : f = 7 := Option.some.inj ((show Tryz.prog.funcNamed "mergelens/mergelenslaw13.StrictAny" = some 7 by kernel_rfl).symm.trans hf) |>.symm
  obtain rfl : fn = Tryz.f7 := (Option.some.inj (Tryz.func7.symm.trans hfn)).symm
  refine ⟨by kernel_rfl, fun j t ht => ?_⟩
  rw [Tryz.params7] at ht
  have hm := Array.mem_of_getElem? ht
  simp only [List.mem_toArray, List.mem_cons, List.not_mem_nil, or_false] at hm
  rcases hm with rfl
  · exact (show Tryz.prog.wantsStandIn 9 = false by kernel_rfl)
theorem strictAny_card : Rows.StrictAnyUptoCardSaid :=
  Claim7.holds_tied_plain_at .later [] _ _ _ _ strictAny_said (fun _ h => by cases h) (by kernel_rfl) (fun _ h => by cases h) strictAnyUpto_row_tie rfl ⟨rfl, rfl⟩ (by kernel_rfl) rfl plain (by kernel_rfl)
#print axioms strictAny_card
end Go.Proofs.YtjjidificdmnmaaGreatDoor
