/- From the law's contract to its row. -/
import Derived.Test.YtmbpmaofnddkoaaGreatDoorFg
import Derived.Test.YtmbpmaofnddkoaaGreatDoorFz
set_option linter.all false
namespace Go.Proofs.YtmbpmaofnddkoaaGreatDoor
open Go Go.AL Go.ChangeShapes Go.WideShapes Go.RowKit
open Go.Proofs.Tryz (prog)
set_option maxRecDepth 100000
theorem own:ownKnob prog.godebug=none:=by kernel_rfl
theorem reads_ints:Reads prog 22 (List Int) 1 intsC (fun l=>∀a∈l,(Lit.int .i64 a).wf=true) (fun l=>1+(l.map fun _=>1).sum) :=
 RM (qB Tryz.underlying3 (by kernel_rfl)) (by omega) Tryz.underlying22 (by kernel_rfl)
theorem laid_z{W:World}(b:laidMetH prog Rows.topReplaysUptoRow.laid W):VW prog W:=fun g a=>by
 obtain rfl:g=3:=B81 (a.symm.trans (show prog.globalNamed "internal/strconv.uint64pow10"=some 3 by kernel_rfl));have c:laidMet prog Rows.topReplaysUptoRow.laid W:=b;have e:Rows.laid_internal_strconv_uint64pow10 (H:=Unit)=Lib.tabData .u64 Lib.pow10Tab:=by kernel_rfl
 exact MB (t:=319) (e:=86) (n:=20) a (by kernel_rfl) (by kernel_rfl) (by kernel_rfl) (by kernel_rfl) (by kernel_rfl) c (by rw[<-e];simp[Rows.topReplaysUptoRow])
theorem contract{H:Type}{enc:TypeId×Value->H}(W:World)(f:Nat)(b:Array Value)(h s:List (DataW H))(before:List MemPlace)(m:W.ShapedOpen prog)(K:laidMetH prog Rows.topReplaysUptoRow.laid W)
  (c:∀(j:Nat) t v,Tryz.f3.params[j]?=some t->b[j]?=some v->Value.okWide prog W .any f t v)
  (x:DataW.Whole enc prog Tryz.f3.params.toList Rows.topReplaysSpec.vars false W b.toList h s before)(N:Rows.uptoSmall H (h++s)=true) :
  Calls prog 3 b W fun e W'=>∃v,e=.returned v/\Rows.topReplaysSpec.post enc prog Tryz.f3 false true false false W b v W':=by
 have k:=x;obtain⟨p,q,i,L,g,M,O⟩:=x;obtain⟨rfl,rfl⟩:=trodVars_none L;have J:Rows.uptoBulkAll h<=1048576:=by have:=A1 N;simpa using this
 have w:DataW.TrodAll enc prog W 0 (fun _=>true) true Tryz.f3.params.toList b.toList h p:=i;rw[Tryz.params3]at w c;obtain⟨v0,U,Z,A,p0,q0,l,rfl,rfl,E,P⟩:=trodAll_cons w;obtain⟨z,V,d1,B,p1,q1,rfl,rfl,rfl,F,Q⟩:=trodAll_cons P;obtain⟨v2,X,d2,C,p2,q2,rfl,rfl,rfl,G,R⟩:=trodAll_cons Q;obtain⟨v3,Y,d3,D,p3,q3,rfl,rfl,rfl,I,S⟩:=trodAll_cons R;obtain⟨rfl,rfl,rfl⟩:=trodAll_nil S;obtain rfl:b=#[v0,z,v2,v3]:=by cases b;simp_all
 simp only[Rows.uptoBulkAll]at J;obtain⟨a0,g0,m0,t0⟩:=A35 reads_ints Tryz.underlying22 (c 0 _ v0 rfl rfl) E (by omega);obtain⟨o,g1,m1,T⟩:=MA (qB Tryz.underlying3 (by kernel_rfl)) Tryz.underlying3 (c 1 _ z rfl rfl) F (by omega);obtain⟨a2,g2,m2,t2⟩:=MA (qB Tryz.underlying3 (by kernel_rfl)) Tryz.underlying3 (c 2 _ v2 rfl rfl) G (by omega);obtain⟨a3,g3,m3,t3⟩:=MA (qB Tryz.underlying3 (by kernel_rfl)) Tryz.underlying3 (c 3 _ v3 rfl rfl) I (by omega);exact A89 m (laid_z K) rfl rfl Tryz.underlying4 k (by simpa using g) (pvs:=[L5 a0,E2 o,E2 a2,E2 a3]) ⟨_,_,t0,⟨_,_,T,⟨_,_,t2,⟨_,_,t3,rfl,rfl⟩,rfl⟩,rfl⟩,rfl⟩ rfl rfl rfl (KW a0 o a2 a3)
noncomputable def wZ(os:Os):World :=
 let d:=World.holding prog os ⟨#[],#[],[]⟩;let put (h:Array Obj) (g:Nat) (j:Array Value):Array Obj:=h.modify g fun
  | .cells _ t b=>.cells j t b
  | o=>o
 { d with heap:=put (put (put (put (put (d.heap) 4 (Lib.deBruijn32tab.map fun (z:Nat)=>Value.int .u8 (z:Int)).toArray) 5 (Lib.deBruijn64tab.map fun (z:Nat)=>Value.int .u8 (z:Int)).toArray) 3 (Lib.pow10Tab.map fun z=>Value.int .u64 z).toArray) 2 ((List.range 16).flatMap fun i=>[Value.int .u8 (Lib.accLo i),Value.int .u8 (Lib.accHi i)]).toArray) 1 (Lib.firstTab.map fun z=>Value.int .u8 z).toArray }
theorem A90(os:Os)(b:Array Value):laidMet prog Rows.topReplaysUptoRow.laid ((wZ os).forCall (fun _ _=>0) ⟨#[],b,[]⟩).memory :=
 laidMet_of_run3 10 (by kernel_rfl) (by kernel_rfl) (by kernel_rfl)
theorem reads(os:Os){H:Type}(enc:TypeId×Value->H):∃b,DataW.whole enc prog ((wZ os).forCall (fun _ _=>0) ⟨#[],#[.slice none 0 0,.int .i64 0,.int .i64 0,.int .i64 0],[]⟩).memory Tryz.f3.params.toList Rows.topReplaysSpec.vars false #[.slice none 0 0,.int .i64 0,.int .i64 0,.int .i64 0].toList 8=some ([.nil,.lit (.int .i64 0),.lit (.int .i64 0),.lit (.int .i64 0)],[],b) :=
 ⟨[],by kernel_rfl⟩
theorem lifted(os:Os)(b:os.Started)(H:Type)(enc:TypeId×Value->H)(F:Stop.Interp) :
  ReturnsInHanded {} Tryz.checked os 3 .any ((Rows.OpenSpec.upto Rows.topReplaysSpec).preRow enc prog Tryz.f3 Rows.topReplaysUptoRow.domain false Rows.topReplaysUptoRow.laid) (((Rows.OpenSpec.upto Rows.topReplaysSpec).at F).post enc prog Tryz.f3 false true false false):=by
 obtain⟨j,A⟩:=reads os enc;refine returnsInHanded_of_row (C:=Tryz.checked) (s:=Rows.OpenSpec.upto Rows.topReplaysSpec) own b (by kernel_rfl) Tryz.func3
  (witness_row_at (enc:=enc) (C:=Tryz.checked) false (wZ os) #[.slice none 0 0,.int .i64 0,.int .i64 0,.int .i64 0] rfl (by kernel_rfl) (by kernel_rfl) (by kernel_rfl)
   (OpenSpec.preRow_of_cond 8 A (by kernel_rfl) (fun k z=>by cases z;kernel_rfl) (by kernel_rfl) (A90 os _))) ?_
 intro W g f q u before h x _ d _ v m _;exact contract W g f q u before m v h x (d _ rfl)
theorem aD{a b:Bool}(ha:a=true)(hb:b=true):(a&&b)=true:=by rw[ha,hb];rfl
theorem fact1:(Rows.topReplaysUptoRow.wf (OpenSpec.ofChange (Rows.OpenSpec.upto Rows.topReplaysSpec).bare):Bool)=true:=by kernel_rfl
theorem fact2:(laidOutB prog:Bool)=true:=by kernel_rfl
theorem fact3:(mapsRowed prog:Bool)=true:=by kernel_rfl
theorem fact4:(Tryz.f3.params.all (prog.readableRec ·):Bool)=true:=by kernel_rfl
theorem fact5:(namedTie prog Rows.topReplaysUptoRow.named (Rows.OpenSpec.upto Rows.topReplaysSpec).bare.vars:Bool)=true:=by kernel_rfl
theorem fact6:((Rows.topReplaysUptoRow.stops == []):Bool)=true:=by kernel_rfl
theorem fact7:((prog.stops == []):Bool)=true:=by kernel_rfl
theorem fact8:((Rows.topReplaysUptoRow.knobs == []):Bool)=true:=by kernel_rfl
theorem fact9:((prog.stopKnobs == []):Bool)=true:=by kernel_rfl
theorem fact10:((Rows.topReplaysUptoRow.inPlace == prog.inPlace 3):Bool)=true:=by kernel_rfl
theorem fact11:((Rows.topReplaysUptoRow.unfollowed == prog.unfollowed 3):Bool)=true:=by kernel_rfl
theorem fact12:((Rows.topReplaysUptoRow.recurses == prog.recurses 3):Bool)=true:=by kernel_rfl
theorem fact13:((Rows.topReplaysUptoRow.named == prog.varsNamed 3):Bool)=true:=by kernel_rfl
theorem fact14:((Rows.topReplaysUptoRow.maps == (Tryz.f3.params.toList++(Rows.OpenSpec.upto Rows.topReplaysSpec).bare.plain.varTypes prog).any (prog.mapsRec ·)):Bool)=true:=by kernel_rfl
theorem fact15:((Rows.topReplaysUptoRow.ifaces == (Tryz.f3.params.toList++(Rows.OpenSpec.upto Rows.topReplaysSpec).bare.plain.varTypes prog).any (prog.ifacesRec ·)):Bool)=true:=by kernel_rfl
theorem fact16:((Rows.topReplaysUptoRow.mapsOut == prog.mapsAmong Tryz.f3.resultTypes.toList):Bool)=true:=by kernel_rfl
theorem fact17:((Rows.topReplaysUptoRow.loops == (Tryz.f3.params.toList++(Rows.OpenSpec.upto Rows.topReplaysSpec).bare.plain.varTypes prog).any (prog.loopsFrom ·)):Bool)=true:=by kernel_rfl
theorem fact18:((Rows.topReplaysUptoRow.wideKeys == (Tryz.f3.params.toList++(Rows.OpenSpec.upto Rows.topReplaysSpec).bare.plain.varTypes prog++Tryz.f3.resultTypes.toList).any (prog.wideKeysFrom ·)):Bool)=true:=by kernel_rfl
theorem fact19:((Rows.OpenSpec.upto Rows.topReplaysSpec).bare.vars.all (prog.varReadable ·):Bool)=true:=by kernel_rfl
theorem fact20:(Tryz.f3.resultTypes.all (fun t=>prog.readableRec t&&decide (t<prog.types.size)):Bool)=true:=by kernel_rfl
theorem fact21:((Rows.topReplaysUptoRow.ifacesOut == Tryz.f3.resultTypes.toList.any (prog.ifacesRec ·)):Bool)=true:=by kernel_rfl
theorem fact22:((Rows.topReplaysUptoRow.loopsOut == Tryz.f3.resultTypes.toList.any (prog.loopsFrom ·)):Bool)=true:=by kernel_rfl
theorem fact23:((Rows.topReplaysUptoRow.plainKeys == prog.plainKeys):Bool)=true:=by kernel_rfl
theorem fact24:(Rows.topReplaysUptoRow.shortTexts.isNone:Bool)=true:=by kernel_rfl
theorem fact25:(prog.stopsHeard:Bool)=true:=by kernel_rfl
theorem fact26:(prog.mayEnter:Bool)=true:=by kernel_rfl
theorem fact27:((Rows.topReplaysUptoRow.lifted == prog.liftsFinal):Bool)=true:=by kernel_rfl
theorem fact28:((prog.make == some Rows.topReplaysUptoRow.make):Bool)=true:=by kernel_rfl
theorem fact29:((Rows.topReplaysUptoRow.kinds == (if Rows.topReplaysUptoRow.domain.isEmpty then [] else Tryz.f3.params.toList.map fun t=>match prog.underlying t with | some (.int k)=>some k | _=>none)):Bool)=true:=by kernel_rfl
theorem fact30:((Rows.topReplaysUptoRow.pinned == Rows.topReplaysUptoRow.pinnedBy):Bool)=true:=by kernel_rfl
theorem fact31:((Rows.topReplaysUptoRow.veiled == (Tryz.f3.params.toList++(Rows.OpenSpec.upto Rows.topReplaysSpec).bare.plain.varTypes prog++Tryz.f3.resultTypes.toList).any (prog.veiledRec ·)):Bool)=true:=by kernel_rfl
theorem fact32:(Rows.topReplaysUptoRow.veiledFits prog Tryz.f3.params.toList (Tryz.f3.params.toList++(Rows.OpenSpec.upto Rows.topReplaysSpec).bare.plain.varTypes prog++Tryz.f3.resultTypes.toList):Bool)=true:=by kernel_rfl
theorem closed:joinedFacts prog 3 Tryz.f3 (Rows.OpenSpec.upto Rows.topReplaysSpec).bare Rows.topReplaysUptoRow=true:=by
 unfold joinedFacts;exact aD (aD (aD (aD (aD (aD (aD (aD (aD (aD (aD (aD (aD (aD (aD (aD (aD (aD (aD (aD (aD (aD (aD (aD (aD (aD (aD (aD (aD (aD (aD (fact1) fact2) fact3) fact4) fact5) fact6) fact7) fact8) fact9) fact10) fact11) fact12) fact13) fact14) fact15) fact16) fact17) fact18) fact19) fact20) fact21) fact22) fact23) fact24) fact25) fact26) fact27) fact28) fact29) fact30) fact31) fact32
theorem zA:Rows.TopReplaysUptoSaid :=
 OpenClaim.holds_of_cond 3 Tryz.f3 rfl rfl rfl rfl rfl rfl rfl ⟨rfl,rfl,rfl,rfl,rfl⟩ rfl rfl rfl rfl rfl (by kernel_rfl) Tryz.func3 closed
  (A1 (by kernel_rfl)) (by unfold Func.isWrapper;first | (rw[A5 (by decide +kernel)];kernel_rfl) | (rw[A6 (by decide +kernel)];exact⟨rfl,rfl⟩))
  (fun os a H enc _ F=>by rw[OpenClaim.pre_eq_preRow];exact lifted os a H enc F)
end Go.Proofs.YtmbpmaofnddkoaaGreatDoor
