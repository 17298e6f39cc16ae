/- From the law's contract to its row. -/
import Derived.Test.YtbflhoahmmfkmaaGreatDoorFg
import Derived.Test.YtbflhoahmmfkmaaGreatDoorFz
set_option linter.all false
namespace Go.Proofs.YtbflhoahmmfkmaaGreatDoor
open Go Go.AL Go.ChangeShapes Go.WideShapes Go.RowKit
set_option maxRecDepth 100000
theorem own:ownKnob Tryz.prog.godebug=none:=by kernel_rfl
theorem reads_ints:Reads Tryz.prog 22 (List Int) 1 RK (fun l=>∀a∈l,(Lit.int .i64 a).wf=true) (fun l=>1+(l.map fun _=>1).sum) :=
 AT (mH Tryz.underlying3 (by kernel_rfl)) (by omega) Tryz.underlying22 (by kernel_rfl)
theorem QI{W:World}(b:laidMetH Tryz.prog Rows.reportCommitsUptoRow.laid W):DX Tryz.prog W:=fun g a=>by
 obtain rfl:g=0:=Option.some.inj (a.symm.trans (show Tryz.prog.globalNamed "internal/strconv.uint64pow10"=some 0 by kernel_rfl));have c:laidMet Tryz.prog Rows.reportCommitsUptoRow.laid W:=b;have e:Rows.laid_internal_strconv_uint64pow10 (H:=Unit)=Lib.tabData .u64 Lib.pow10Tab:=by kernel_rfl
 exact wW (t:=418) (e:=127) (n:=20) a (by kernel_rfl) (by kernel_rfl) (by kernel_rfl) (by kernel_rfl) (by kernel_rfl) c (by rw[<-e];simp[Rows.reportCommitsUptoRow])
theorem contract{H:Type}{enc:TypeId×Value->H}(W:World)(f:Nat)(b:Array Value)(h s:List (DataW H))(before:List MemPlace)(m:W.ShapedOpen Tryz.prog)(I:laidMetH Tryz.prog Rows.reportCommitsUptoRow.laid W)
  (c:∀(j:Nat) t v,Tryz.f6.params[j]?=some t->b[j]?=some v->Value.okWide Tryz.prog W .any f t v)
  (x:DataW.Whole enc Tryz.prog Tryz.f6.params.toList Rows.reportCommitsSpec.vars false W b.toList h s before) (L:Rows.uptoSmall H (h++s)=true) :
  Calls Tryz.prog 6 b W fun e W'=>∃v,e=.returned v/\Rows.reportCommitsSpec.post enc Tryz.prog Tryz.f6 false true false false W b v W':=by
 have k:=x;obtain⟨p,q,i,J,g,K,M⟩:=x;obtain⟨rfl,rfl⟩:=trodVars_none J;have G:Rows.uptoBulkAll h<=1048576:=by have:=A0 L;simpa using this
 have w:DataW.TrodAll enc Tryz.prog W 0 (fun _=>true) true Tryz.f6.params.toList b.toList h p:=i;rw[Tryz.params6]at w c;obtain⟨v0,R,U,A,p0,q0,l,rfl,rfl,D,N⟩:=trodAll_cons w;obtain⟨z,S,V,B,p1,q1,rfl,rfl,rfl,E,O⟩:=trodAll_cons N;obtain⟨v2,T,X,C,p2,q2,rfl,rfl,rfl,F,P⟩:=trodAll_cons O;obtain⟨rfl,rfl,rfl⟩:=trodAll_nil P;obtain rfl:b=#[v0,z,v2]:=by cases b;simp_all
 simp only[Rows.uptoBulkAll]at G;obtain⟨a0,g0,m0,t0⟩:=IJ reads_ints Tryz.underlying22 (c 0 _ v0 rfl rfl) D (by omega);obtain⟨o,g1,m1,Q⟩:=FL (mH Tryz.underlying3 (by kernel_rfl)) Tryz.underlying3 (c 1 _ z rfl rfl) E (by omega);obtain⟨a2,Y,Z,t2⟩:=FL (mH Tryz.underlying3 (by kernel_rfl)) Tryz.underlying3 (c 2 _ v2 rfl rfl) F (by omega);exact LY m (QI I) rfl rfl Tryz.underlying4 k (by simpa using g) (pvs:=[K0 a0,E6 o,E6 a2]) ⟨_,_,t0,⟨_,_,Q,⟨_,_,t2,rfl,rfl⟩,rfl⟩,rfl⟩ rfl rfl rfl (vT a0 o a2)
noncomputable def mI(os:Os):World :=
 let d:=World.holding Tryz.prog os ⟨#[],#[],[]⟩;let put (h:Array Obj) (g:Nat) (j:Array Value):Array Obj:=h.modify g fun
  | .cells _ t b=>.cells j t b
  | o=>o
 { d with heap:=put (put (put (put (put (d.heap) 2 (Lib.deBruijn32tab.map fun (z:Nat)=>Value.int .u8 (z:Int)).toArray) 3 (Lib.deBruijn64tab.map fun (z:Nat)=>Value.int .u8 (z:Int)).toArray) 0 (Lib.pow10Tab.map fun z=>Value.int .u64 z).toArray) 5 ((List.range 16).flatMap fun i=>[Value.int .u8 (Lib.accLo i),Value.int .u8 (Lib.accHi i)]).toArray) 4 (Lib.firstTab.map fun z=>Value.int .u8 z).toArray }
theorem LZ(os:Os)(b:Array Value):laidMet Tryz.prog Rows.reportCommitsUptoRow.laid ((mI os).forCall (fun _ _=>0) ⟨#[],b,[]⟩).memory :=
 laidMet_of_run3 10 (by kernel_rfl) (by kernel_rfl) (by kernel_rfl)
theorem reads(os:Os){H:Type}(enc:TypeId×Value->H):∃b,DataW.whole enc Tryz.prog ((mI os).forCall (fun _ _=>0) ⟨#[],#[.slice none 0 0,.int .i64 0,.int .i64 0],[]⟩).memory Tryz.f6.params.toList Rows.reportCommitsSpec.vars false #[.slice none 0 0,.int .i64 0,.int .i64 0].toList 8=some ([.nil,.lit (.int .i64 0),.lit (.int .i64 0)],[],b) :=
 ⟨[],by kernel_rfl⟩
theorem lifted(os:Os)(b:os.Started)(H:Type)(enc:TypeId×Value->H)(F:Stop.Interp) :
  ReturnsInHanded {} Tryz.checked os 6 .any ((Rows.OpenSpec.upto Rows.reportCommitsSpec).preRow enc Tryz.prog Tryz.f6 Rows.reportCommitsUptoRow.domain false Rows.reportCommitsUptoRow.laid) (((Rows.OpenSpec.upto Rows.reportCommitsSpec).at F).post enc Tryz.prog Tryz.f6 false true false false):=by
 obtain⟨j,A⟩:=reads os enc;refine returnsInHanded_of_row (C:=Tryz.checked) (s:=Rows.OpenSpec.upto Rows.reportCommitsSpec) own b (by kernel_rfl) Tryz.func6
  (witness_row_at (enc:=enc) (C:=Tryz.checked) false (mI os) #[.slice none 0 0,.int .i64 0,.int .i64 0] rfl (by kernel_rfl) (by kernel_rfl) (by kernel_rfl)
   (OpenSpec.preRow_of_cond 8 A (by kernel_rfl) (fun k z=>by cases z;kernel_rfl) (by kernel_rfl) (LZ os _))) ?_
 intro W g f q u before h x _ d _ v m _;exact contract W g f q u before m v h x (d _ rfl)
theorem Y6{a b:Bool}(ha:a=true)(hb:b=true):(a&&b)=true:=by rw[ha,hb];rfl
theorem SP:(Rows.reportCommitsUptoRow.wf (OpenSpec.ofChange (Rows.OpenSpec.upto Rows.reportCommitsSpec).bare):Bool)=true:=by kernel_rfl
theorem SQ:(laidOutB Tryz.prog:Bool)=true:=by kernel_rfl
theorem SR:(mapsRowed Tryz.prog:Bool)=true:=by kernel_rfl
theorem SS:(Tryz.f6.params.all (Tryz.prog.readableRec ·):Bool)=true:=by kernel_rfl
theorem SU:(namedTie Tryz.prog Rows.reportCommitsUptoRow.named (Rows.OpenSpec.upto Rows.reportCommitsSpec).bare.vars:Bool)=true:=by kernel_rfl
theorem SW:((Rows.reportCommitsUptoRow.stops == []):Bool)=true:=by kernel_rfl
theorem SX:((Tryz.prog.stops == []):Bool)=true:=by kernel_rfl
theorem SY:((Rows.reportCommitsUptoRow.knobs == []):Bool)=true:=by kernel_rfl
theorem SZ:((Tryz.prog.stopKnobs == []):Bool)=true:=by kernel_rfl
theorem QJ:((Rows.reportCommitsUptoRow.inPlace == Tryz.prog.inPlace 6):Bool)=true:=by kernel_rfl
theorem QK:((Rows.reportCommitsUptoRow.unfollowed == Tryz.prog.unfollowed 6):Bool)=true:=by kernel_rfl
theorem QL:((Rows.reportCommitsUptoRow.recurses == Tryz.prog.recurses 6):Bool)=true:=by kernel_rfl
theorem QM:((Rows.reportCommitsUptoRow.named == Tryz.prog.varsNamed 6):Bool)=true:=by kernel_rfl
theorem QN:((Rows.reportCommitsUptoRow.maps == (Tryz.f6.params.toList++(Rows.OpenSpec.upto Rows.reportCommitsSpec).bare.plain.varTypes Tryz.prog).any (Tryz.prog.mapsRec ·)):Bool)=true:=by kernel_rfl
theorem QO:((Rows.reportCommitsUptoRow.ifaces == (Tryz.f6.params.toList++(Rows.OpenSpec.upto Rows.reportCommitsSpec).bare.plain.varTypes Tryz.prog).any (Tryz.prog.ifacesRec ·)):Bool)=true:=by kernel_rfl
theorem QP:((Rows.reportCommitsUptoRow.mapsOut == Tryz.prog.mapsAmong Tryz.f6.resultTypes.toList):Bool)=true:=by kernel_rfl
theorem QQ:((Rows.reportCommitsUptoRow.loops == (Tryz.f6.params.toList++(Rows.OpenSpec.upto Rows.reportCommitsSpec).bare.plain.varTypes Tryz.prog).any (Tryz.prog.loopsFrom ·)):Bool)=true:=by kernel_rfl
theorem QR:((Rows.reportCommitsUptoRow.wideKeys == (Tryz.f6.params.toList++(Rows.OpenSpec.upto Rows.reportCommitsSpec).bare.plain.varTypes Tryz.prog++Tryz.f6.resultTypes.toList).any (Tryz.prog.wideKeysFrom ·)):Bool)=true:=by kernel_rfl
theorem QS:((Rows.OpenSpec.upto Rows.reportCommitsSpec).bare.vars.all (Tryz.prog.varReadable ·):Bool)=true:=by kernel_rfl
theorem QT:(Tryz.f6.resultTypes.all (fun t=>Tryz.prog.readableRec t&&decide (t<Tryz.prog.types.size)):Bool)=true:=by kernel_rfl
theorem QU:((Rows.reportCommitsUptoRow.ifacesOut == Tryz.f6.resultTypes.toList.any (Tryz.prog.ifacesRec ·)):Bool)=true:=by kernel_rfl
theorem QV:((Rows.reportCommitsUptoRow.loopsOut == Tryz.f6.resultTypes.toList.any (Tryz.prog.loopsFrom ·)):Bool)=true:=by kernel_rfl
theorem QW:((Rows.reportCommitsUptoRow.plainKeys == Tryz.prog.plainKeys):Bool)=true:=by kernel_rfl
theorem QX:(Rows.reportCommitsUptoRow.shortTexts.isNone:Bool)=true:=by kernel_rfl
theorem QY:(Tryz.prog.stopsHeard:Bool)=true:=by kernel_rfl
theorem QZ:(Tryz.prog.mayEnter:Bool)=true:=by kernel_rfl
theorem RA:((Rows.reportCommitsUptoRow.lifted == Tryz.prog.liftsFinal):Bool)=true:=by kernel_rfl
theorem RB:((Tryz.prog.make == some Rows.reportCommitsUptoRow.make):Bool)=true:=by kernel_rfl
theorem RC:((Rows.reportCommitsUptoRow.kinds == (if Rows.reportCommitsUptoRow.domain.isEmpty then [] else Tryz.f6.params.toList.map fun t=>match Tryz.prog.underlying t with | some (.int k)=>some k | _=>none)):Bool)=true:=by kernel_rfl
theorem RD:((Rows.reportCommitsUptoRow.pinned == Rows.reportCommitsUptoRow.pinnedBy):Bool)=true:=by kernel_rfl
theorem RE:((Rows.reportCommitsUptoRow.veiled == (Tryz.f6.params.toList++(Rows.OpenSpec.upto Rows.reportCommitsSpec).bare.plain.varTypes Tryz.prog++Tryz.f6.resultTypes.toList).any (Tryz.prog.veiledRec ·)):Bool)=true:=by kernel_rfl
theorem RF:(Rows.reportCommitsUptoRow.veiledFits Tryz.prog Tryz.f6.params.toList (Tryz.f6.params.toList++(Rows.OpenSpec.upto Rows.reportCommitsSpec).bare.plain.varTypes Tryz.prog++Tryz.f6.resultTypes.toList):Bool)=true:=by kernel_rfl
theorem closed:joinedFacts Tryz.prog 6 Tryz.f6 (Rows.OpenSpec.upto Rows.reportCommitsSpec).bare Rows.reportCommitsUptoRow=true:=by
 unfold joinedFacts;exact Y6 (Y6 (Y6 (Y6 (Y6 (Y6 (Y6 (Y6 (Y6 (Y6 (Y6 (Y6 (Y6 (Y6 (Y6 (Y6 (Y6 (Y6 (Y6 (Y6 (Y6 (Y6 (Y6 (Y6 (Y6 (Y6 (Y6 (Y6 (Y6 (Y6 (Y6 (SP) SQ) SR) SS) SU) SW) SX) SY) SZ) QJ) QK) QL) QM) QN) QO) QP) QQ) QR) QS) QT) QU) QV) QW) QX) QY) QZ) RA) RB) RC) RD) RE) RF
theorem jK:Rows.ReportCommitsUptoSaid :=
 OpenClaim.holds_of_cond 6 Tryz.f6 rfl rfl rfl rfl rfl rfl rfl ⟨rfl,rfl,rfl,rfl,rfl⟩ rfl rfl rfl rfl rfl (by kernel_rfl) Tryz.func6 closed
  (A0 (by kernel_rfl)) (by unfold Func.isWrapper;first | (rw[A4 (by decide +kernel)];kernel_rfl) | (rw[A5 (by decide +kernel)];exact⟨rfl,rfl⟩))
  (fun os a H enc _ F=>by rw[OpenClaim.pre_eq_preRow];exact lifted os a H enc F)
end Go.Proofs.YtbflhoahmmfkmaaGreatDoor
