/- From the law's contract to its row. -/
import Derived.Test.YtkahafmcmiiolaaGreatDoorFf
import Derived.Test.YtkahafmcmiiolaaGreatDoorFz
set_option linter.unusedSimpArgs false
namespace Go.Proofs.YtkahafmcmiiolaaGreatDoor
open Go Go.AL Go.ChangeShapes Go.WideShapes Go.RowKit
set_option maxRecDepth 100000
theorem own:ownKnob Tryz.prog.godebug=none:=by kernel_rfl
theorem reads_ints:Reads Tryz.prog 22 (List Int) 1 intsC (fun l=>∀a∈l,(Lit.int .i64 a).wf=true) (fun l=>1+(l.map fun _=>1).sum) :=
 H10 (F55 Tryz.underlying3 (by kernel_rfl)) (by omega) Tryz.underlying22 (by kernel_rfl)
theorem contract {H:Type} {enc:TypeId × Value→H} (W:World) (base:Nat) (args:Array Value) (ds gs:List (DataW H)) (before:List MemPlace) (hsh:W.ShapedOpen Tryz.prog) (_hL:laidMetH Tryz.prog Rows.pickaxeWholeUptoRow.laid W)
  (hval:∀(j:Nat) t v,Tryz.f4.params[j]?=some t→args[j]?=some v→Value.okWide Tryz.prog W .any base t v)
  (hW:DataW.Whole enc Tryz.prog Tryz.f4.params.toList Rows.pickaxeWholeSpec.vars false W args.toList ds gs before) (hk:Rows.uptoSmall H (ds++gs)=true) :
  Calls Tryz.prog 4 args W fun e W'=>∃v,e=.returned v∧Rows.pickaxeWholeSpec.post enc Tryz.prog Tryz.f4 false true false false W args v W':=by
 have hW0:=hW
 obtain ⟨p,q,hA0,hV,hbef,hfz,hnd⟩:=hW
 obtain ⟨rfl,rfl⟩:=trodVars_none hV
 have hB:Rows.uptoBulkAll ds≤1048576:=by have:=A0 hk;simpa using this
 have hA:DataW.TrodAll enc Tryz.prog W 0 (fun _=>true) true Tryz.f4.params.toList args.toList ds p:=hA0
 rw [Tryz.params4] at hA hval
 obtain ⟨v0,vs0,d0,ds0,p0,q0,hargs,rfl,rfl,h0,r0⟩:=trodAll_cons hA
 obtain ⟨v1,vs1,d1,ds1,p1,q1,rfl,rfl,rfl,h1,r1⟩:=trodAll_cons r0
 obtain ⟨rfl,rfl,rfl⟩:=trodAll_nil r1
 obtain rfl:args=#[v0,v1]:=by cases args;simp_all
 simp only [Rows.uptoBulkAll] at hB
 obtain ⟨a0,g0,m0,t0⟩:=I93 reads_ints Tryz.underlying22 (hval 0 _ v0 rfl rfl) h0 (by omega)
 obtain ⟨a1,g1,m1,t1⟩:=arg_int (F55 Tryz.underlying3 (by kernel_rfl)) Tryz.underlying3 (hval 1 _ v1 rfl rfl) h1 (by omega)
 exact J34 hsh (H89 (by kernel_rfl)) rfl rfl Tryz.underlying4 hW0 (by simpa using hbef) (pvs:=[L1 a0,G1 a1]) ⟨_,_,t0,⟨_,_,t1,rfl,rfl⟩,rfl⟩ rfl rfl rfl (D80 a0 a1)
noncomputable def D29 (os:Os):World :=
 let w0:=World.holding Tryz.prog os ⟨#[],#[],[]⟩
 let put (h:Array Obj) (g:Nat) (cs:Array Value):Array Obj:=h.modify g fun
  | .cells _ t frozen=>.cells cs t frozen
  | o=>o
 { w0 with heap:=put (put (w0.heap) 2 ((List.range 16).flatMap fun i=>[Value.int .u8 (Lib.accLo i),Value.int .u8 (Lib.accHi i)]).toArray) 1 (Lib.firstTab.map fun z=>Value.int .u8 z).toArray }
theorem J35 (os:Os) (args:Array Value):laidMet Tryz.prog Rows.pickaxeWholeUptoRow.laid ((D29 os).forCall (fun _ _=>0) ⟨#[],args,[]⟩).memory :=
 laidMet_of_run3 10 (by kernel_rfl) (by kernel_rfl) (by kernel_rfl)
theorem reads (os:Os) {H:Type} (enc:TypeId × Value→H):∃places,DataW.whole enc Tryz.prog ((D29 os).forCall (fun _ _=>0) ⟨#[],#[.slice none 0 0,.int .i64 0],[]⟩).memory Tryz.f4.params.toList Rows.pickaxeWholeSpec.vars false #[.slice none 0 0,.int .i64 0].toList 8=some ([.nil,.lit (.int .i64 0)],[],places) :=
 ⟨[],by kernel_rfl⟩
theorem lifted (os:Os) (started:os.Started) (H:Type) (enc:TypeId × Value→H) (F:Stop.Interp) :
  ReturnsInHanded {} Tryz.checked os 4 .any ((Rows.OpenSpec.upto Rows.pickaxeWholeSpec).preRow enc Tryz.prog Tryz.f4 Rows.pickaxeWholeUptoRow.domain false Rows.pickaxeWholeUptoRow.laid) (((Rows.OpenSpec.upto Rows.pickaxeWholeSpec).at F).post enc Tryz.prog Tryz.f4 false true false false):=by
 obtain ⟨places,hx⟩:=reads os enc
 refine returnsInHanded_of_row (C:=Tryz.checked) (s:=Rows.OpenSpec.upto Rows.pickaxeWholeSpec) own started (by kernel_rfl) Tryz.func4
  (witness_row_at (enc:=enc) (C:=Tryz.checked) false (D29 os) #[.slice none 0 0,.int .i64 0] rfl (by kernel_rfl) (by kernel_rfl) (by kernel_rfl)
   (OpenSpec.preRow_of_cond 8 hx (by kernel_rfl) (fun k hk=>by cases hk;kernel_rfl) (by kernel_rfl) (J35 os _))) ?_
 intro W base args ds gs before hval hW _ hcond _ hL hsh _
 exact contract W base args ds gs before hsh hL hval hW (hcond _ rfl)
theorem b9 {a b:Bool} (ha:a=true) (hb:b=true):(a&&b)=true:=by rw [ha,hb];rfl
theorem fact1:(Rows.pickaxeWholeUptoRow.wf (OpenSpec.ofChange (Rows.OpenSpec.upto Rows.pickaxeWholeSpec).bare):Bool)=true:=by kernel_rfl
theorem fact2:(laidOutB Tryz.prog:Bool)=true:=by kernel_rfl
theorem fact3:(mapsRowed Tryz.prog:Bool)=true:=by kernel_rfl
theorem fact4:(Tryz.f4.params.all (Tryz.prog.readableRec ·):Bool)=true:=by kernel_rfl
theorem fact5:(namedTie Tryz.prog Rows.pickaxeWholeUptoRow.named (Rows.OpenSpec.upto Rows.pickaxeWholeSpec).bare.vars:Bool)=true:=by kernel_rfl
theorem fact6:((Rows.pickaxeWholeUptoRow.stops == []):Bool)=true:=by kernel_rfl
theorem fact7:((Tryz.prog.stops == []):Bool)=true:=by kernel_rfl
theorem fact8:((Rows.pickaxeWholeUptoRow.knobs == []):Bool)=true:=by kernel_rfl
theorem fact9:((Tryz.prog.stopKnobs == []):Bool)=true:=by kernel_rfl
theorem fact10:((Rows.pickaxeWholeUptoRow.inPlace == Tryz.prog.inPlace 4):Bool)=true:=by kernel_rfl
theorem fact11:((Rows.pickaxeWholeUptoRow.unfollowed == Tryz.prog.unfollowed 4):Bool)=true:=by kernel_rfl
theorem fact12:((Rows.pickaxeWholeUptoRow.recurses == Tryz.prog.recurses 4):Bool)=true:=by kernel_rfl
theorem fact13:((Rows.pickaxeWholeUptoRow.named == Tryz.prog.varsNamed 4):Bool)=true:=by kernel_rfl
theorem fact14:((Rows.pickaxeWholeUptoRow.maps == (Tryz.f4.params.toList++(Rows.OpenSpec.upto Rows.pickaxeWholeSpec).bare.plain.varTypes Tryz.prog).any (Tryz.prog.mapsRec ·)):Bool)=true:=by kernel_rfl
theorem fact15:((Rows.pickaxeWholeUptoRow.ifaces == (Tryz.f4.params.toList++(Rows.OpenSpec.upto Rows.pickaxeWholeSpec).bare.plain.varTypes Tryz.prog).any (Tryz.prog.ifacesRec ·)):Bool)=true:=by kernel_rfl
theorem fact16:((Rows.pickaxeWholeUptoRow.mapsOut == Tryz.prog.mapsAmong Tryz.f4.resultTypes.toList):Bool)=true:=by kernel_rfl
theorem fact17:((Rows.pickaxeWholeUptoRow.loops == (Tryz.f4.params.toList++(Rows.OpenSpec.upto Rows.pickaxeWholeSpec).bare.plain.varTypes Tryz.prog).any (Tryz.prog.loopsFrom ·)):Bool)=true:=by kernel_rfl
theorem fact18:((Rows.pickaxeWholeUptoRow.wideKeys == (Tryz.f4.params.toList++(Rows.OpenSpec.upto Rows.pickaxeWholeSpec).bare.plain.varTypes Tryz.prog++Tryz.f4.resultTypes.toList).any (Tryz.prog.wideKeysFrom ·)):Bool)=true:=by kernel_rfl
theorem fact19:((Rows.OpenSpec.upto Rows.pickaxeWholeSpec).bare.vars.all (Tryz.prog.varReadable ·):Bool)=true:=by kernel_rfl
theorem fact20:(Tryz.f4.resultTypes.all (fun t=>Tryz.prog.readableRec t&&decide (t < Tryz.prog.types.size)):Bool)=true:=by kernel_rfl
theorem fact21:((Rows.pickaxeWholeUptoRow.ifacesOut == Tryz.f4.resultTypes.toList.any (Tryz.prog.ifacesRec ·)):Bool)=true:=by kernel_rfl
theorem fact22:((Rows.pickaxeWholeUptoRow.loopsOut == Tryz.f4.resultTypes.toList.any (Tryz.prog.loopsFrom ·)):Bool)=true:=by kernel_rfl
theorem fact23:((Rows.pickaxeWholeUptoRow.plainKeys == Tryz.prog.plainKeys):Bool)=true:=by kernel_rfl
theorem fact24:(Rows.pickaxeWholeUptoRow.shortTexts.isNone:Bool)=true:=by kernel_rfl
theorem fact25:(Tryz.prog.stopsHeard:Bool)=true:=by kernel_rfl
theorem fact26:(Tryz.prog.mayEnter:Bool)=true:=by kernel_rfl
theorem fact27:((Rows.pickaxeWholeUptoRow.lifted == Tryz.prog.liftsFinal):Bool)=true:=by kernel_rfl
theorem fact28:((Tryz.prog.make == some Rows.pickaxeWholeUptoRow.make):Bool)=true:=by kernel_rfl
theorem fact29:((Rows.pickaxeWholeUptoRow.kinds == (if Rows.pickaxeWholeUptoRow.domain.isEmpty then [] else Tryz.f4.params.toList.map fun t=>match Tryz.prog.underlying t with | some (.int k)=>some k | _=>none)):Bool)=true:=by kernel_rfl
theorem fact30:((Rows.pickaxeWholeUptoRow.pinned == Rows.pickaxeWholeUptoRow.pinnedBy):Bool)=true:=by kernel_rfl
theorem fact31:((Rows.pickaxeWholeUptoRow.veiled == (Tryz.f4.params.toList++(Rows.OpenSpec.upto Rows.pickaxeWholeSpec).bare.plain.varTypes Tryz.prog++Tryz.f4.resultTypes.toList).any (Tryz.prog.veiledRec ·)):Bool)=true:=by kernel_rfl
theorem fact32:(Rows.pickaxeWholeUptoRow.veiledFits Tryz.prog Tryz.f4.params.toList (Tryz.f4.params.toList++(Rows.OpenSpec.upto Rows.pickaxeWholeSpec).bare.plain.varTypes Tryz.prog++Tryz.f4.resultTypes.toList):Bool)=true:=by kernel_rfl
theorem closed:joinedFacts Tryz.prog 4 Tryz.f4 (Rows.OpenSpec.upto Rows.pickaxeWholeSpec).bare Rows.pickaxeWholeUptoRow=true:=by
 unfold joinedFacts
 exact b9 (b9 (b9 (b9 (b9 (b9 (b9 (b9 (b9 (b9 (b9 (b9 (b9 (b9 (b9 (b9 (b9 (b9 (b9 (b9 (b9 (b9 (b9 (b9 (b9 (b9 (b9 (b9 (b9 (b9 (b9 (fact1) fact2) fact3) fact4) fact5) fact6) fact7) fact8) fact9) fact10) fact11) fact12) fact13) fact14) fact15) fact16) fact17) fact18) fact19) fact20) fact21) fact22) fact23) fact24) fact25) fact26) fact27) fact28) fact29) fact30) fact31) fact32
theorem C91:Rows.PickaxeWholeUptoSaid :=
 OpenClaim.holds_of_cond 4 Tryz.f4 rfl rfl rfl rfl rfl rfl rfl ⟨rfl,rfl,rfl,rfl,rfl⟩ rfl rfl rfl rfl rfl (by kernel_rfl) Tryz.func4 closed
  (A0 (by kernel_rfl)) (by unfold Func.isWrapper;first | (rw [if_pos (by decide +kernel)];kernel_rfl) | (rw [if_neg (by decide +kernel)];exact ⟨rfl,rfl⟩))
  (fun os started H enc _ F=>by rw [OpenClaim.pre_eq_preRow];exact lifted os started H enc F)
end Go.Proofs.YtkahafmcmiiolaaGreatDoor
