/- From the law's contract to its row. -/
import Derived.Test.YtbflhoahmmfkmaaGreatDoorFh
import Derived.Test.YtbflhoahmmfkmaaGreatDoorFz
set_option linter.all false
namespace Go.Proofs.YtbflhoahmmfkmaaGreatDoor
open Go Go.AL Go.ChangeShapes Go.WideShapes Go.RowKit
set_option maxRecDepth 100000
theorem own:ownKnob Tryz.prog.godebug=none:=by kernel_rfl
theorem reads_ints:Reads Tryz.prog 22 (List Int) 1 intsC (fun l=>∀a∈l,(Lit.int .i64 a).wf=true) (fun l=>1+(l.map fun _=>1).sum) :=
 CO (dE Tryz.underlying3 (by kernel_rfl)) (by omega) Tryz.underlying22 (by kernel_rfl)
theorem RZ{W:World}(b:laidMetH Tryz.prog Rows.topRangesUptoRow.laid W):FV Tryz.prog W:=fun g a=>by
 obtain rfl:g=0:=Option.some.inj (a.symm.trans (show Tryz.prog.globalNamed "internal/strconv.uint64pow10"=some 0 by kernel_rfl));have c:laidMet Tryz.prog Rows.topRangesUptoRow.laid W:=b;have e:Rows.laid_internal_strconv_uint64pow10 (H:=Unit)=Lib.tabData .u64 Lib.pow10Tab:=by kernel_rfl
 exact yX (t:=418) (e:=127) (n:=20) a (by kernel_rfl) (by kernel_rfl) (by kernel_rfl) (by kernel_rfl) (by kernel_rfl) c (by rw[<-e];simp[Rows.topRangesUptoRow])
theorem contract{H:Type}{enc:TypeId×Value->H}(W:World)(f:Nat)(b:Array Value)(h s:List (DataW H))(before:List MemPlace)(m:W.ShapedOpen Tryz.prog)(M:laidMetH Tryz.prog Rows.topRangesUptoRow.laid W)
  (c:∀(j:Nat) t v,Tryz.f4.params[j]?=some t->b[j]?=some v->Value.okWide Tryz.prog W .any f t v)
  (x:DataW.Whole enc Tryz.prog Tryz.f4.params.toList Rows.topRangesSpec.vars false W b.toList h s before) (P:Rows.uptoSmall H (h++s)=true) :
  Calls Tryz.prog 4 b W fun e W'=>∃v,e=.returned v/\Rows.topRangesSpec.post enc Tryz.prog Tryz.f4 false true false false W b v W':=by
 have k:=x;obtain⟨p,q,i,N,g,O,Q⟩:=x;obtain⟨rfl,rfl⟩:=trodVars_none N;have L:Rows.uptoBulkAll h<=1048576:=by have:=A0 P;simpa using this
 have w:DataW.TrodAll enc Tryz.prog W 0 (fun _=>true) true Tryz.f4.params.toList b.toList h p:=i;rw[Tryz.params4]at w c;obtain⟨v0,Y,d0,A,p0,q0,l,rfl,rfl,F,R⟩:=trodAll_cons w;obtain⟨z,Z,d1,B,p1,q1,rfl,rfl,rfl,G,S⟩:=trodAll_cons R;obtain⟨v2,ab,d2,C,p2,q2,rfl,rfl,rfl,I,T⟩:=trodAll_cons S;obtain⟨v3,ac,d3,D,p3,q3,rfl,rfl,rfl,J,U⟩:=trodAll_cons T;obtain⟨v4,ad,d4,E,p4,q4,rfl,rfl,rfl,K,V⟩:=trodAll_cons U;obtain⟨rfl,rfl,rfl⟩:=trodAll_nil V;obtain rfl:b=#[v0,z,v2,v3,v4]:=by cases b;simp_all
 simp only[Rows.uptoBulkAll]at L;obtain⟨a0,g0,m0,t0⟩:=KZ reads_ints Tryz.underlying22 (c 0 _ v0 rfl rfl) F (by omega);obtain⟨o,g1,m1,X⟩:=pW (dE Tryz.underlying3 (by kernel_rfl)) Tryz.underlying3 (c 1 _ z rfl rfl) G (by omega);obtain⟨a2,g2,m2,t2⟩:=pW (dE Tryz.underlying3 (by kernel_rfl)) Tryz.underlying3 (c 2 _ v2 rfl rfl) I (by omega);obtain⟨a3,g3,m3,t3⟩:=pW (dE Tryz.underlying3 (by kernel_rfl)) Tryz.underlying3 (c 3 _ v3 rfl rfl) J (by omega);obtain⟨a4,g4,m4,t4⟩:=pW (dE Tryz.underlying3 (by kernel_rfl)) Tryz.underlying3 (c 4 _ v4 rfl rfl) K (by omega);exact NZ m (RZ M) rfl rfl Tryz.underlying4 k (by simpa using g) (pvs:=[O6 a0,E8 o,E8 a2,E8 a3,E8 a4]) ⟨_,_,t0,⟨_,_,X,⟨_,_,t2,⟨_,_,t3,⟨_,_,t4,rfl,rfl⟩,rfl⟩,rfl⟩,rfl⟩,rfl⟩ rfl rfl rfl (xZ a0 o a2 a3 a4)
noncomputable def nY(os:Os):World :=
 let d:=World.holding Tryz.prog os ⟨#[],#[],[]⟩;let put (h:Array Obj) (g:Nat) (j:Array Value):Array Obj:=h.modify g fun
  | .cells _ t b=>.cells j t b
  | o=>o
 { d with heap:=put (put (put (put (put (d.heap) 2 (Lib.deBruijn32tab.map fun (z:Nat)=>Value.int .u8 (z:Int)).toArray) 3 (Lib.deBruijn64tab.map fun (z:Nat)=>Value.int .u8 (z:Int)).toArray) 0 (Lib.pow10Tab.map fun z=>Value.int .u64 z).toArray) 5 ((List.range 16).flatMap fun i=>[Value.int .u8 (Lib.accLo i),Value.int .u8 (Lib.accHi i)]).toArray) 4 (Lib.firstTab.map fun z=>Value.int .u8 z).toArray }
theorem OA(os:Os)(b:Array Value):laidMet Tryz.prog Rows.topRangesUptoRow.laid ((nY os).forCall (fun _ _=>0) ⟨#[],b,[]⟩).memory :=
 laidMet_of_run3 10 (by kernel_rfl) (by kernel_rfl) (by kernel_rfl)
theorem reads(os:Os){H:Type}(enc:TypeId×Value->H):∃b,DataW.whole enc Tryz.prog ((nY os).forCall (fun _ _=>0) ⟨#[],#[.slice none 0 0,.int .i64 0,.int .i64 0,.int .i64 0,.int .i64 0],[]⟩).memory Tryz.f4.params.toList Rows.topRangesSpec.vars false #[.slice none 0 0,.int .i64 0,.int .i64 0,.int .i64 0,.int .i64 0].toList 8=some ([.nil,.lit (.int .i64 0),.lit (.int .i64 0),.lit (.int .i64 0),.lit (.int .i64 0)],[],b) :=
 ⟨[],by kernel_rfl⟩
theorem lifted(os:Os)(b:os.Started)(H:Type)(enc:TypeId×Value->H)(F:Stop.Interp) :
  ReturnsInHanded {} Tryz.checked os 4 .any ((Rows.OpenSpec.upto Rows.topRangesSpec).preRow enc Tryz.prog Tryz.f4 Rows.topRangesUptoRow.domain false Rows.topRangesUptoRow.laid) (((Rows.OpenSpec.upto Rows.topRangesSpec).at F).post enc Tryz.prog Tryz.f4 false true false false):=by
 obtain⟨j,A⟩:=reads os enc;refine returnsInHanded_of_row (C:=Tryz.checked) (s:=Rows.OpenSpec.upto Rows.topRangesSpec) own b (by kernel_rfl) Tryz.func4
  (witness_row_at (enc:=enc) (C:=Tryz.checked) false (nY os) #[.slice none 0 0,.int .i64 0,.int .i64 0,.int .i64 0,.int .i64 0] rfl (by kernel_rfl) (by kernel_rfl) (by kernel_rfl)
   (OpenSpec.preRow_of_cond 8 A (by kernel_rfl) (fun k z=>by cases z;kernel_rfl) (by kernel_rfl) (OA os _))) ?_
 intro W g f q u before h x _ d _ v m _;exact contract W g f q u before m v h x (d _ rfl)
theorem i6{a b:Bool}(ha:a=true)(hb:b=true):(a&&b)=true:=by rw[ha,hb];rfl
theorem UJ:(Rows.topRangesUptoRow.wf (OpenSpec.ofChange (Rows.OpenSpec.upto Rows.topRangesSpec).bare):Bool)=true:=by kernel_rfl
theorem UK:(laidOutB Tryz.prog:Bool)=true:=by kernel_rfl
theorem UL:(mapsRowed Tryz.prog:Bool)=true:=by kernel_rfl
theorem UM:(Tryz.f4.params.all (Tryz.prog.readableRec ·):Bool)=true:=by kernel_rfl
theorem UN:(namedTie Tryz.prog Rows.topRangesUptoRow.named (Rows.OpenSpec.upto Rows.topRangesSpec).bare.vars:Bool)=true:=by kernel_rfl
theorem UO:((Rows.topRangesUptoRow.stops == []):Bool)=true:=by kernel_rfl
theorem UP:((Tryz.prog.stops == []):Bool)=true:=by kernel_rfl
theorem UQ:((Rows.topRangesUptoRow.knobs == []):Bool)=true:=by kernel_rfl
theorem UR:((Tryz.prog.stopKnobs == []):Bool)=true:=by kernel_rfl
theorem SA:((Rows.topRangesUptoRow.inPlace == Tryz.prog.inPlace 4):Bool)=true:=by kernel_rfl
theorem SB:((Rows.topRangesUptoRow.unfollowed == Tryz.prog.unfollowed 4):Bool)=true:=by kernel_rfl
theorem SC:((Rows.topRangesUptoRow.recurses == Tryz.prog.recurses 4):Bool)=true:=by kernel_rfl
theorem SD:((Rows.topRangesUptoRow.named == Tryz.prog.varsNamed 4):Bool)=true:=by kernel_rfl
theorem SE:((Rows.topRangesUptoRow.maps == (Tryz.f4.params.toList++(Rows.OpenSpec.upto Rows.topRangesSpec).bare.plain.varTypes Tryz.prog).any (Tryz.prog.mapsRec ·)):Bool)=true:=by kernel_rfl
theorem SF:((Rows.topRangesUptoRow.ifaces == (Tryz.f4.params.toList++(Rows.OpenSpec.upto Rows.topRangesSpec).bare.plain.varTypes Tryz.prog).any (Tryz.prog.ifacesRec ·)):Bool)=true:=by kernel_rfl
theorem SG:((Rows.topRangesUptoRow.mapsOut == Tryz.prog.mapsAmong Tryz.f4.resultTypes.toList):Bool)=true:=by kernel_rfl
theorem SH:((Rows.topRangesUptoRow.loops == (Tryz.f4.params.toList++(Rows.OpenSpec.upto Rows.topRangesSpec).bare.plain.varTypes Tryz.prog).any (Tryz.prog.loopsFrom ·)):Bool)=true:=by kernel_rfl
theorem SI:((Rows.topRangesUptoRow.wideKeys == (Tryz.f4.params.toList++(Rows.OpenSpec.upto Rows.topRangesSpec).bare.plain.varTypes Tryz.prog++Tryz.f4.resultTypes.toList).any (Tryz.prog.wideKeysFrom ·)):Bool)=true:=by kernel_rfl
theorem SJ:((Rows.OpenSpec.upto Rows.topRangesSpec).bare.vars.all (Tryz.prog.varReadable ·):Bool)=true:=by kernel_rfl
theorem SK:(Tryz.f4.resultTypes.all (fun t=>Tryz.prog.readableRec t&&decide (t<Tryz.prog.types.size)):Bool)=true:=by kernel_rfl
theorem SL:((Rows.topRangesUptoRow.ifacesOut == Tryz.f4.resultTypes.toList.any (Tryz.prog.ifacesRec ·)):Bool)=true:=by kernel_rfl
theorem SM:((Rows.topRangesUptoRow.loopsOut == Tryz.f4.resultTypes.toList.any (Tryz.prog.loopsFrom ·)):Bool)=true:=by kernel_rfl
theorem SN:((Rows.topRangesUptoRow.plainKeys == Tryz.prog.plainKeys):Bool)=true:=by kernel_rfl
theorem SO:(Rows.topRangesUptoRow.shortTexts.isNone:Bool)=true:=by kernel_rfl
theorem SP:(Tryz.prog.stopsHeard:Bool)=true:=by kernel_rfl
theorem SQ:(Tryz.prog.mayEnter:Bool)=true:=by kernel_rfl
theorem SR:((Rows.topRangesUptoRow.lifted == Tryz.prog.liftsFinal):Bool)=true:=by kernel_rfl
theorem SS:((Tryz.prog.make == some Rows.topRangesUptoRow.make):Bool)=true:=by kernel_rfl
theorem SU:((Rows.topRangesUptoRow.kinds == (if Rows.topRangesUptoRow.domain.isEmpty then [] else Tryz.f4.params.toList.map fun t=>match Tryz.prog.underlying t with | some (.int k)=>some k | _=>none)):Bool)=true:=by kernel_rfl
theorem SW:((Rows.topRangesUptoRow.pinned == Rows.topRangesUptoRow.pinnedBy):Bool)=true:=by kernel_rfl
theorem SX:((Rows.topRangesUptoRow.veiled == (Tryz.f4.params.toList++(Rows.OpenSpec.upto Rows.topRangesSpec).bare.plain.varTypes Tryz.prog++Tryz.f4.resultTypes.toList).any (Tryz.prog.veiledRec ·)):Bool)=true:=by kernel_rfl
theorem SY:(Rows.topRangesUptoRow.veiledFits Tryz.prog Tryz.f4.params.toList (Tryz.f4.params.toList++(Rows.OpenSpec.upto Rows.topRangesSpec).bare.plain.varTypes Tryz.prog++Tryz.f4.resultTypes.toList):Bool)=true:=by kernel_rfl
theorem closed:joinedFacts Tryz.prog 4 Tryz.f4 (Rows.OpenSpec.upto Rows.topRangesSpec).bare Rows.topRangesUptoRow=true:=by
 unfold joinedFacts;exact i6 (i6 (i6 (i6 (i6 (i6 (i6 (i6 (i6 (i6 (i6 (i6 (i6 (i6 (i6 (i6 (i6 (i6 (i6 (i6 (i6 (i6 (i6 (i6 (i6 (i6 (i6 (i6 (i6 (i6 (i6 (UJ) UK) UL) UM) UN) UO) UP) UQ) UR) SA) SB) SC) SD) SE) SF) SG) SH) SI) SJ) SK) SL) SM) SN) SO) SP) SQ) SR) SS) SU) SW) SX) SY
theorem tJ:Rows.TopRangesUptoSaid :=
 OpenClaim.holds_of_cond 4 Tryz.f4 rfl rfl rfl rfl rfl rfl rfl ⟨rfl,rfl,rfl,rfl,rfl⟩ rfl rfl rfl rfl rfl (by kernel_rfl) Tryz.func4 closed
  (A0 (by kernel_rfl)) (by unfold Func.isWrapper;first | (rw[A4 (by decide +kernel)];kernel_rfl) | (rw[A5 (by decide +kernel)];exact⟨rfl,rfl⟩))
  (fun os a H enc _ F=>by rw[OpenClaim.pre_eq_preRow];exact lifted os a H enc F)
end Go.Proofs.YtbflhoahmmfkmaaGreatDoor
