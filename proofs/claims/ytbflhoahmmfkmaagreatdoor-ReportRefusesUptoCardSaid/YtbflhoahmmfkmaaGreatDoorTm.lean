/- From the law's contract to its row. -/
import Derived.Test.YtbflhoahmmfkmaaGreatDoorFd
import Derived.Test.YtbflhoahmmfkmaaGreatDoorFz
set_option linter.all false
namespace Go.Proofs.YtbflhoahmmfkmaaGreatDoor
open Go Go.AL Go.ChangeShapes Go.WideShapes Go.RowKit
set_option maxRecDepth 100000
theorem own:ownKnob Tryz.prog.godebug=none:=by kernel_rfl
theorem DO{W:World}(b:laidMetH Tryz.prog Rows.reportRefusesUptoRow.laid W):tV Tryz.prog W:=fun g a=>by
 obtain rfl:g=0:=Option.some.inj (a.symm.trans (show Tryz.prog.globalNamed "internal/strconv.uint64pow10"=some 0 by kernel_rfl));have c:laidMet Tryz.prog Rows.reportRefusesUptoRow.laid W:=b;have e:Rows.laid_internal_strconv_uint64pow10 (H:=Unit)=Lib.tabData .u64 Lib.pow10Tab:=by kernel_rfl
 exact oJ (t:=418) (e:=127) (n:=20) a (by kernel_rfl) (by kernel_rfl) (by kernel_rfl) (by kernel_rfl) (by kernel_rfl) c (by rw[<-e];simp[Rows.reportRefusesUptoRow])
theorem contract{H:Type}{enc:TypeId×Value->H}(W:World)(f:Nat)(b:Array Value)(i w:List (DataW H))(before:List MemPlace)(o:W.ShapedOpen Tryz.prog)(L:laidMetH Tryz.prog Rows.reportRefusesUptoRow.laid W)
  (c:∀(j:Nat) t v,Tryz.f5.params[j]?=some t->b[j]?=some v->Value.okWide Tryz.prog W .any f t v)
  (z:DataW.Whole enc Tryz.prog Tryz.f5.params.toList Rows.reportRefusesSpec.vars false W b.toList i w before) (O:Rows.uptoSmall H (i++w)=true) :
  Calls Tryz.prog 5 b W fun e W'=>∃v,e=.returned v/\Rows.reportRefusesSpec.post enc Tryz.prog Tryz.f5 false true false false W b v W':=by
 have l:=z;obtain⟨p,q,k,M,g,N,P⟩:=z;obtain⟨rfl,rfl⟩:=trodVars_none M;have K:Rows.uptoBulkAll i<=1048576:=by have:=A0 O;simpa using this
 have x:DataW.TrodAll enc Tryz.prog W 0 (fun _=>true) true Tryz.f5.params.toList b.toList i p:=k;rw[Tryz.params5]at x c;obtain⟨v0,V,d0,B,p0,q0,m,rfl,rfl,F,Q⟩:=trodAll_cons x;obtain⟨A,X,d1,C,p1,q1,rfl,rfl,rfl,G,R⟩:=trodAll_cons Q;obtain⟨v2,Y,d2,D,p2,q2,rfl,rfl,rfl,I,S⟩:=trodAll_cons R;obtain⟨v3,Z,d3,E,p3,q3,rfl,rfl,rfl,J,T⟩:=trodAll_cons S;obtain⟨rfl,rfl,rfl⟩:=trodAll_nil T;obtain rfl:b=#[v0,A,v2,v3]:=by cases b;simp_all
 simp only[Rows.uptoBulkAll]at K;obtain⟨a0,g0,m0,t0⟩:=xA kY Tryz.underlying23 (c 0 _ v0 rfl rfl) F (by omega);obtain⟨s,g1,m1,U⟩:=tS xC Tryz.underlying37 (c 1 _ A rfl rfl) G (by omega);obtain⟨a2,g2,m2,t2⟩:=tQ (Y2 Tryz.underlying9 (by kernel_rfl)) Tryz.underlying9 (c 2 _ v2 rfl rfl) I (by omega);obtain⟨a3,g3,m3,t3⟩:=BC (U6 Tryz.underlying3 (by kernel_rfl)) Tryz.underlying3 (c 3 _ v3 rfl rfl) J (by omega);exact zQ o (DO L) rfl rfl Tryz.underlying4 l (by simpa using g) (pvs:=[E4 a0,j7 s,F9 a2,D0 a3]) ⟨_,_,t0,⟨_,_,U,⟨_,_,t2,⟨_,_,t3,rfl,rfl⟩,rfl⟩,rfl⟩,rfl⟩ rfl rfl rfl (nO a0 s a2 a3 (fun h=>few_of (by omega) (by omega)))
noncomputable def fL(os:Os):World :=
 let d:=World.holding Tryz.prog os ⟨#[],#[],[]⟩;let put (h:Array Obj) (g:Nat) (j:Array Value):Array Obj:=h.modify g fun
  | .cells _ t b=>.cells j t b
  | o=>o
 { d with heap:=put (put (put (put (put (d.heap) 2 (Lib.deBruijn32tab.map fun (z:Nat)=>Value.int .u8 (z:Int)).toArray) 3 (Lib.deBruijn64tab.map fun (z:Nat)=>Value.int .u8 (z:Int)).toArray) 0 (Lib.pow10Tab.map fun z=>Value.int .u64 z).toArray) 5 ((List.range 16).flatMap fun i=>[Value.int .u8 (Lib.accLo i),Value.int .u8 (Lib.accHi i)]).toArray) 4 (Lib.firstTab.map fun z=>Value.int .u8 z).toArray }
theorem zR(os:Os)(b:Array Value):laidMet Tryz.prog Rows.reportRefusesUptoRow.laid ((fL os).forCall (fun _ _=>0) ⟨#[],b,[]⟩).memory :=
 laidMet_of_run3 10 (by kernel_rfl) (by kernel_rfl) (by kernel_rfl)
theorem reads(os:Os){H:Type}(enc:TypeId×Value->H):∃d,DataW.whole enc Tryz.prog ((fL os).forCall (fun _ _=>0) ⟨#[],#[.slice none 0 0,.agg #[.int .i64 0,.int .i64 0,.int .i64 0,.int .i64 0,.bool false,.string ⟨#[]⟩],.string ⟨#[]⟩,.int .i64 0],[]⟩).memory Tryz.f5.params.toList Rows.reportRefusesSpec.vars false #[.slice none 0 0,.agg #[.int .i64 0,.int .i64 0,.int .i64 0,.int .i64 0,.bool false,.string ⟨#[]⟩],.string ⟨#[]⟩,.int .i64 0].toList 8=some ([.nil,.agg [.lit (.int .i64 0),.lit (.int .i64 0),.lit (.int .i64 0),.lit (.int .i64 0),.lit (.bool false),.lit (.string [])],.lit (.string []),.lit (.int .i64 0)],[],d) :=
 ⟨[],by kernel_rfl⟩
theorem lifted(os:Os)(d:os.Started)(H:Type)(enc:TypeId×Value->H)(F:Stop.Interp) :
  ReturnsInHanded {} Tryz.checked os 5 .any ((Rows.OpenSpec.upto Rows.reportRefusesSpec).preRow enc Tryz.prog Tryz.f5 Rows.reportRefusesUptoRow.domain false Rows.reportRefusesUptoRow.laid) (((Rows.OpenSpec.upto Rows.reportRefusesSpec).at F).post enc Tryz.prog Tryz.f5 false true false false):=by
 obtain⟨q,D⟩:=reads os enc;refine returnsInHanded_of_row (C:=Tryz.checked) (s:=Rows.OpenSpec.upto Rows.reportRefusesSpec) own d (by kernel_rfl) Tryz.func5
  (witness_row_at (enc:=enc) (C:=Tryz.checked) false (fL os) #[.slice none 0 0,.agg #[.int .i64 0,.int .i64 0,.int .i64 0,.int .i64 0,.bool false,.string ⟨#[]⟩],.string ⟨#[]⟩,.int .i64 0] rfl (by kernel_rfl) (by kernel_rfl) (by kernel_rfl)
   (OpenSpec.preRow_of_cond 8 D (by kernel_rfl) (fun k B=>by cases B;kernel_rfl) (by kernel_rfl) (zR os _))) ?_
 intro W j h v x before m A _ f _ z u _;exact contract W j h v x before u z m A (f _ rfl)
theorem R8{a b:Bool}(ha:a=true)(hb:b=true):(a&&b)=true:=by rw[ha,hb];rfl
theorem FU:(Rows.reportRefusesUptoRow.wf (OpenSpec.ofChange (Rows.OpenSpec.upto Rows.reportRefusesSpec).bare):Bool)=true:=by kernel_rfl
theorem FV:(laidOutB Tryz.prog:Bool)=true:=by kernel_rfl
theorem FW:(mapsRowed Tryz.prog:Bool)=true:=by kernel_rfl
theorem FX:(Tryz.f5.params.all (Tryz.prog.readableRec ·):Bool)=true:=by kernel_rfl
theorem FY:(namedTie Tryz.prog Rows.reportRefusesUptoRow.named (Rows.OpenSpec.upto Rows.reportRefusesSpec).bare.vars:Bool)=true:=by kernel_rfl
theorem FZ:((Rows.reportRefusesUptoRow.stops == []):Bool)=true:=by kernel_rfl
theorem GA:((Tryz.prog.stops == []):Bool)=true:=by kernel_rfl
theorem GB:((Rows.reportRefusesUptoRow.knobs == []):Bool)=true:=by kernel_rfl
theorem GC:((Tryz.prog.stopKnobs == []):Bool)=true:=by kernel_rfl
theorem DP:((Rows.reportRefusesUptoRow.inPlace == Tryz.prog.inPlace 5):Bool)=true:=by kernel_rfl
theorem DQ:((Rows.reportRefusesUptoRow.unfollowed == Tryz.prog.unfollowed 5):Bool)=true:=by kernel_rfl
theorem DR:((Rows.reportRefusesUptoRow.recurses == Tryz.prog.recurses 5):Bool)=true:=by kernel_rfl
theorem DS:((Rows.reportRefusesUptoRow.named == Tryz.prog.varsNamed 5):Bool)=true:=by kernel_rfl
theorem DT:((Rows.reportRefusesUptoRow.maps == (Tryz.f5.params.toList++(Rows.OpenSpec.upto Rows.reportRefusesSpec).bare.plain.varTypes Tryz.prog).any (Tryz.prog.mapsRec ·)):Bool)=true:=by kernel_rfl
theorem DU:((Rows.reportRefusesUptoRow.ifaces == (Tryz.f5.params.toList++(Rows.OpenSpec.upto Rows.reportRefusesSpec).bare.plain.varTypes Tryz.prog).any (Tryz.prog.ifacesRec ·)):Bool)=true:=by kernel_rfl
theorem DV:((Rows.reportRefusesUptoRow.mapsOut == Tryz.prog.mapsAmong Tryz.f5.resultTypes.toList):Bool)=true:=by kernel_rfl
theorem DW:((Rows.reportRefusesUptoRow.loops == (Tryz.f5.params.toList++(Rows.OpenSpec.upto Rows.reportRefusesSpec).bare.plain.varTypes Tryz.prog).any (Tryz.prog.loopsFrom ·)):Bool)=true:=by kernel_rfl
theorem DX:((Rows.reportRefusesUptoRow.wideKeys == (Tryz.f5.params.toList++(Rows.OpenSpec.upto Rows.reportRefusesSpec).bare.plain.varTypes Tryz.prog++Tryz.f5.resultTypes.toList).any (Tryz.prog.wideKeysFrom ·)):Bool)=true:=by kernel_rfl
theorem DY:((Rows.OpenSpec.upto Rows.reportRefusesSpec).bare.vars.all (Tryz.prog.varReadable ·):Bool)=true:=by kernel_rfl
theorem DZ:(Tryz.f5.resultTypes.all (fun t=>Tryz.prog.readableRec t&&decide (t<Tryz.prog.types.size)):Bool)=true:=by kernel_rfl
theorem EA:((Rows.reportRefusesUptoRow.ifacesOut == Tryz.f5.resultTypes.toList.any (Tryz.prog.ifacesRec ·)):Bool)=true:=by kernel_rfl
theorem EB:((Rows.reportRefusesUptoRow.loopsOut == Tryz.f5.resultTypes.toList.any (Tryz.prog.loopsFrom ·)):Bool)=true:=by kernel_rfl
theorem EC:((Rows.reportRefusesUptoRow.plainKeys == Tryz.prog.plainKeys):Bool)=true:=by kernel_rfl
theorem ED:(Rows.reportRefusesUptoRow.shortTexts.isNone:Bool)=true:=by kernel_rfl
theorem EE:(Tryz.prog.stopsHeard:Bool)=true:=by kernel_rfl
theorem EF:(Tryz.prog.mayEnter:Bool)=true:=by kernel_rfl
theorem EG:((Rows.reportRefusesUptoRow.lifted == Tryz.prog.liftsFinal):Bool)=true:=by kernel_rfl
theorem EH:((Tryz.prog.make == some Rows.reportRefusesUptoRow.make):Bool)=true:=by kernel_rfl
theorem EI:((Rows.reportRefusesUptoRow.kinds == (if Rows.reportRefusesUptoRow.domain.isEmpty then [] else Tryz.f5.params.toList.map fun t=>match Tryz.prog.underlying t with | some (.int k)=>some k | _=>none)):Bool)=true:=by kernel_rfl
theorem EJ:((Rows.reportRefusesUptoRow.pinned == Rows.reportRefusesUptoRow.pinnedBy):Bool)=true:=by kernel_rfl
theorem EK:((Rows.reportRefusesUptoRow.veiled == (Tryz.f5.params.toList++(Rows.OpenSpec.upto Rows.reportRefusesSpec).bare.plain.varTypes Tryz.prog++Tryz.f5.resultTypes.toList).any (Tryz.prog.veiledRec ·)):Bool)=true:=by kernel_rfl
theorem EL:(Rows.reportRefusesUptoRow.veiledFits Tryz.prog Tryz.f5.params.toList (Tryz.f5.params.toList++(Rows.OpenSpec.upto Rows.reportRefusesSpec).bare.plain.varTypes Tryz.prog++Tryz.f5.resultTypes.toList):Bool)=true:=by kernel_rfl
theorem closed:joinedFacts Tryz.prog 5 Tryz.f5 (Rows.OpenSpec.upto Rows.reportRefusesSpec).bare Rows.reportRefusesUptoRow=true:=by
 unfold joinedFacts;exact R8 (R8 (R8 (R8 (R8 (R8 (R8 (R8 (R8 (R8 (R8 (R8 (R8 (R8 (R8 (R8 (R8 (R8 (R8 (R8 (R8 (R8 (R8 (R8 (R8 (R8 (R8 (R8 (R8 (R8 (R8 (FU) FV) FW) FX) FY) FZ) GA) GB) GC) DP) DQ) DR) DS) DT) DU) DV) DW) DX) DY) DZ) EA) EB) EC) ED) EE) EF) EG) EH) EI) EJ) EK) EL
theorem cT:Rows.ReportRefusesUptoSaid :=
 OpenClaim.holds_of_cond 5 Tryz.f5 rfl rfl rfl rfl rfl rfl rfl ⟨rfl,rfl,rfl,rfl,rfl⟩ rfl rfl rfl rfl rfl (by kernel_rfl) Tryz.func5 closed
  (A0 (by kernel_rfl)) (by unfold Func.isWrapper;first | (rw[A4 (by decide +kernel)];kernel_rfl) | (rw[A5 (by decide +kernel)];exact⟨rfl,rfl⟩))
  (fun os a H enc _ F=>by rw[OpenClaim.pre_eq_preRow];exact lifted os a H enc F)
end Go.Proofs.YtbflhoahmmfkmaaGreatDoor
