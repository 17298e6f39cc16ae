/- From the law's contract to its row. -/
import Derived.Test.YtjmoigcpoopjhaaGreatDoorFf
import Derived.Test.YtjmoigcpoopjhaaGreatDoorFz
set_option linter.unusedSimpArgs false
namespace Go.Proofs.YtjmoigcpoopjhaaGreatDoor
open Go Go.AL Go.ChangeShapes Go.WideShapes Go.RowKit
set_option maxRecDepth 100000
theorem own:ownKnob Tryz.prog.godebug=none:=by kernel_rfl
theorem contract {H:Type} {enc:TypeId × Value→H} (W:World) (base:Nat) (args:Array Value) (ds gs:List (DataW H)) (before:List MemPlace) (hsh:W.ShapedOpen Tryz.prog) (_hL:laidMetH Tryz.prog Rows.pickaxeRefusesUptoRow.laid W)
  (hval:∀(j:Nat) t v,Tryz.f3.params[j]?=some t→args[j]?=some v→Value.okWide Tryz.prog W .any base t v)
  (hW:DataW.Whole enc Tryz.prog Tryz.f3.params.toList Rows.pickaxeRefusesSpec.vars false W args.toList ds gs before) (hk:Rows.uptoSmall H (ds++gs)=true) :
  Calls Tryz.prog 3 args W fun e W'=>∃v,e=.returned v∧Rows.pickaxeRefusesSpec.post enc Tryz.prog Tryz.f3 false true false false W args v W':=by
 have hW0:=hW
 obtain ⟨p,q,hA0,hV,hbef,hfz,hnd⟩:=hW
 obtain ⟨rfl,rfl⟩:=trodVars_none hV
 have hB:Rows.uptoBulkAll ds≤1048576:=by have:=A1 hk;simpa using this
 have hA:DataW.TrodAll enc Tryz.prog W 0 (fun _=>true) true Tryz.f3.params.toList args.toList ds p:=hA0
 rw [Tryz.params3] at hA hval
 obtain ⟨v0,vs0,d0,ds0,p0,q0,hargs,rfl,rfl,h0,r0⟩:=trodAll_cons hA
 obtain ⟨v1,vs1,d1,ds1,p1,q1,rfl,rfl,rfl,h1,r1⟩:=trodAll_cons r0
 obtain ⟨v2,vs2,d2,ds2,p2,q2,rfl,rfl,rfl,h2,r2⟩:=trodAll_cons r1
 obtain ⟨rfl,rfl,rfl⟩:=trodAll_nil r2
 obtain rfl:args=#[v0,v1,v2]:=by cases args;simp_all
 simp only [Rows.uptoBulkAll] at hB
 obtain ⟨a0,g0,m0,t0⟩:=K27 G03 Tryz.underlying22 (hval 0 _ v0 rfl rfl) h0 (by omega)
 obtain ⟨a1,g1,m1,t1⟩:=J68 (C55 Tryz.underlying3 (by kernel_rfl)) Tryz.underlying3 (hval 1 _ v1 rfl rfl) h1 (by omega)
 obtain ⟨a2,g2,m2,t2⟩:=J68 (C55 Tryz.underlying3 (by kernel_rfl)) Tryz.underlying3 (hval 2 _ v2 rfl rfl) h2 (by omega)
 exact K74 hsh (J21 (by kernel_rfl)) rfl rfl Tryz.underlying4 hW0 (by simpa using hbef) (pvs:=[K3 a0,E2 a1,E2 a2]) ⟨_,_,t0,⟨_,_,t1,⟨_,_,t2,rfl,rfl⟩,rfl⟩,rfl⟩ rfl rfl rfl (F96 a0 a1 a2 (fun h=>few_of (by omega) (by omega)))
noncomputable def E11 (os:Os):World :=
 let w0:=World.holding Tryz.prog os ⟨#[],#[],[]⟩
 let put (h:Array Obj) (g:Nat) (cs:Array Value):Array Obj:=h.modify g fun
  | .cells _ t frozen=>.cells cs t frozen
  | o=>o
 { w0 with heap:=put (put (w0.heap) 2 ((List.range 16).flatMap fun i=>[Value.int .u8 (Lib.accLo i),Value.int .u8 (Lib.accHi i)]).toArray) 1 (Lib.firstTab.map fun z=>Value.int .u8 z).toArray }
theorem K75 (os:Os) (args:Array Value):laidMet Tryz.prog Rows.pickaxeRefusesUptoRow.laid ((E11 os).forCall (fun _ _=>0) ⟨#[],args,[]⟩).memory :=
 laidMet_of_run3 10 (by kernel_rfl) (by kernel_rfl) (by kernel_rfl)
theorem reads (os:Os) {H:Type} (enc:TypeId × Value→H):∃places,DataW.whole enc Tryz.prog ((E11 os).forCall (fun _ _=>0) ⟨#[],#[.slice none 0 0,.int .i64 0,.int .i64 0],[]⟩).memory Tryz.f3.params.toList Rows.pickaxeRefusesSpec.vars false #[.slice none 0 0,.int .i64 0,.int .i64 0].toList 8=some ([.nil,.lit (.int .i64 0),.lit (.int .i64 0)],[],places) :=
 ⟨[],by kernel_rfl⟩
theorem lifted (os:Os) (started:os.Started) (H:Type) (enc:TypeId × Value→H) (F:Stop.Interp) :
  ReturnsInHanded {} Tryz.checked os 3 .any ((Rows.OpenSpec.upto Rows.pickaxeRefusesSpec).preRow enc Tryz.prog Tryz.f3 Rows.pickaxeRefusesUptoRow.domain false Rows.pickaxeRefusesUptoRow.laid) (((Rows.OpenSpec.upto Rows.pickaxeRefusesSpec).at F).post enc Tryz.prog Tryz.f3 false true false false):=by
 obtain ⟨places,hx⟩:=reads os enc
 refine returnsInHanded_of_row (C:=Tryz.checked) (s:=Rows.OpenSpec.upto Rows.pickaxeRefusesSpec) own started (by kernel_rfl) Tryz.func3
  (witness_row_at (enc:=enc) (C:=Tryz.checked) false (E11 os) #[.slice none 0 0,.int .i64 0,.int .i64 0] rfl (by kernel_rfl) (by kernel_rfl) (by kernel_rfl)
   (OpenSpec.preRow_of_cond 8 hx (by kernel_rfl) (fun k hk=>by cases hk;kernel_rfl) (by kernel_rfl) (K75 os _))) ?_
 intro W base args ds gs before hval hW _ hcond _ hL hsh _
 exact contract W base args ds gs before hsh hL hval hW (hcond _ rfl)
theorem o7 {a b:Bool} (ha:a=true) (hb:b=true):(a&&b)=true:=by rw [ha,hb];rfl
theorem fact1:(Rows.pickaxeRefusesUptoRow.wf (OpenSpec.ofChange (Rows.OpenSpec.upto Rows.pickaxeRefusesSpec).bare):Bool)=true:=by kernel_rfl
theorem fact2:(laidOutB Tryz.prog:Bool)=true:=by kernel_rfl
theorem fact3:(mapsRowed Tryz.prog:Bool)=true:=by kernel_rfl
theorem fact4:(Tryz.f3.params.all (Tryz.prog.readableRec ·):Bool)=true:=by kernel_rfl
theorem fact5:(namedTie Tryz.prog Rows.pickaxeRefusesUptoRow.named (Rows.OpenSpec.upto Rows.pickaxeRefusesSpec).bare.vars:Bool)=true:=by kernel_rfl
theorem fact6:((Rows.pickaxeRefusesUptoRow.stops == []):Bool)=true:=by kernel_rfl
theorem fact7:((Tryz.prog.stops == []):Bool)=true:=by kernel_rfl
theorem fact8:((Rows.pickaxeRefusesUptoRow.knobs == []):Bool)=true:=by kernel_rfl
theorem fact9:((Tryz.prog.stopKnobs == []):Bool)=true:=by kernel_rfl
theorem fact10:((Rows.pickaxeRefusesUptoRow.inPlace == Tryz.prog.inPlace 3):Bool)=true:=by kernel_rfl
theorem fact11:((Rows.pickaxeRefusesUptoRow.unfollowed == Tryz.prog.unfollowed 3):Bool)=true:=by kernel_rfl
theorem fact12:((Rows.pickaxeRefusesUptoRow.recurses == Tryz.prog.recurses 3):Bool)=true:=by kernel_rfl
theorem fact13:((Rows.pickaxeRefusesUptoRow.named == Tryz.prog.varsNamed 3):Bool)=true:=by kernel_rfl
theorem fact14:((Rows.pickaxeRefusesUptoRow.maps == (Tryz.f3.params.toList++(Rows.OpenSpec.upto Rows.pickaxeRefusesSpec).bare.plain.varTypes Tryz.prog).any (Tryz.prog.mapsRec ·)):Bool)=true:=by kernel_rfl
theorem fact15:((Rows.pickaxeRefusesUptoRow.ifaces == (Tryz.f3.params.toList++(Rows.OpenSpec.upto Rows.pickaxeRefusesSpec).bare.plain.varTypes Tryz.prog).any (Tryz.prog.ifacesRec ·)):Bool)=true:=by kernel_rfl
theorem fact16:((Rows.pickaxeRefusesUptoRow.mapsOut == Tryz.prog.mapsAmong Tryz.f3.resultTypes.toList):Bool)=true:=by kernel_rfl
theorem fact17:((Rows.pickaxeRefusesUptoRow.loops == (Tryz.f3.params.toList++(Rows.OpenSpec.upto Rows.pickaxeRefusesSpec).bare.plain.varTypes Tryz.prog).any (Tryz.prog.loopsFrom ·)):Bool)=true:=by kernel_rfl
theorem fact18:((Rows.pickaxeRefusesUptoRow.wideKeys == (Tryz.f3.params.toList++(Rows.OpenSpec.upto Rows.pickaxeRefusesSpec).bare.plain.varTypes Tryz.prog++Tryz.f3.resultTypes.toList).any (Tryz.prog.wideKeysFrom ·)):Bool)=true:=by kernel_rfl
theorem fact19:((Rows.OpenSpec.upto Rows.pickaxeRefusesSpec).bare.vars.all (Tryz.prog.varReadable ·):Bool)=true:=by kernel_rfl
theorem fact20:(Tryz.f3.resultTypes.all (fun t=>Tryz.prog.readableRec t&&decide (t < Tryz.prog.types.size)):Bool)=true:=by kernel_rfl
theorem fact21:((Rows.pickaxeRefusesUptoRow.ifacesOut == Tryz.f3.resultTypes.toList.any (Tryz.prog.ifacesRec ·)):Bool)=true:=by kernel_rfl
theorem fact22:((Rows.pickaxeRefusesUptoRow.loopsOut == Tryz.f3.resultTypes.toList.any (Tryz.prog.loopsFrom ·)):Bool)=true:=by kernel_rfl
theorem fact23:((Rows.pickaxeRefusesUptoRow.plainKeys == Tryz.prog.plainKeys):Bool)=true:=by kernel_rfl
theorem fact24:(Rows.pickaxeRefusesUptoRow.shortTexts.isNone:Bool)=true:=by kernel_rfl
theorem fact25:(Tryz.prog.stopsHeard:Bool)=true:=by kernel_rfl
theorem fact26:(Tryz.prog.mayEnter:Bool)=true:=by kernel_rfl
theorem fact27:((Rows.pickaxeRefusesUptoRow.lifted == Tryz.prog.liftsFinal):Bool)=true:=by kernel_rfl
theorem fact28:((Tryz.prog.make == some Rows.pickaxeRefusesUptoRow.make):Bool)=true:=by kernel_rfl
theorem fact29:((Rows.pickaxeRefusesUptoRow.kinds == (if Rows.pickaxeRefusesUptoRow.domain.isEmpty then [] else Tryz.f3.params.toList.map fun t=>match Tryz.prog.underlying t with | some (.int k)=>some k | _=>none)):Bool)=true:=by kernel_rfl
theorem fact30:((Rows.pickaxeRefusesUptoRow.pinned == Rows.pickaxeRefusesUptoRow.pinnedBy):Bool)=true:=by kernel_rfl
theorem fact31:((Rows.pickaxeRefusesUptoRow.veiled == (Tryz.f3.params.toList++(Rows.OpenSpec.upto Rows.pickaxeRefusesSpec).bare.plain.varTypes Tryz.prog++Tryz.f3.resultTypes.toList).any (Tryz.prog.veiledRec ·)):Bool)=true:=by kernel_rfl
theorem fact32:(Rows.pickaxeRefusesUptoRow.veiledFits Tryz.prog Tryz.f3.params.toList (Tryz.f3.params.toList++(Rows.OpenSpec.upto Rows.pickaxeRefusesSpec).bare.plain.varTypes Tryz.prog++Tryz.f3.resultTypes.toList):Bool)=true:=by kernel_rfl
theorem closed:joinedFacts Tryz.prog 3 Tryz.f3 (Rows.OpenSpec.upto Rows.pickaxeRefusesSpec).bare Rows.pickaxeRefusesUptoRow=true:=by
 unfold joinedFacts
 exact o7 (o7 (o7 (o7 (o7 (o7 (o7 (o7 (o7 (o7 (o7 (o7 (o7 (o7 (o7 (o7 (o7 (o7 (o7 (o7 (o7 (o7 (o7 (o7 (o7 (o7 (o7 (o7 (o7 (o7 (o7 (fact1) fact2) fact3) fact4) fact5) fact6) fact7) fact8) fact9) fact10) fact11) fact12) fact13) fact14) fact15) fact16) fact17) fact18) fact19) fact20) fact21) fact22) fact23) fact24) fact25) fact26) fact27) fact28) fact29) fact30) fact31) fact32
theorem C64:Rows.PickaxeRefusesUptoSaid :=
 OpenClaim.holds_of_cond 3 Tryz.f3 rfl rfl rfl rfl rfl rfl rfl ⟨rfl,rfl,rfl,rfl,rfl⟩ rfl rfl rfl rfl rfl (by kernel_rfl) Tryz.func3 closed
  (A1 (by kernel_rfl)) (by unfold Func.isWrapper;first | (rw [if_pos (by decide +kernel)];kernel_rfl) | (rw [if_neg (by decide +kernel)];exact ⟨rfl,rfl⟩))
  (fun os started H enc _ F=>by rw [OpenClaim.pre_eq_preRow];exact lifted os started H enc F)
end Go.Proofs.YtjmoigcpoopjhaaGreatDoor
